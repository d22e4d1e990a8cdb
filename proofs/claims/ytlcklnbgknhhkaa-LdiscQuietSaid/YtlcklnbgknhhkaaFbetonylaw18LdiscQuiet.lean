/- The shallow reading of one function, and that the function does it. Written by a program. -/
import Derived.Test.YtlcklnbgknhhkaaFnC
set_option linter.unusedVariables false
namespace Go.Proofs.Ytlcklnbgknhhkaa
open Go Go.HW

def betonylaw18_LdiscQuiet_l1 (R : Value → Heap → Prop) (x0 x23 x25 : Value) (next : Value → Heap → Prop) (x7 : Value) (h_9 : Heap) : Prop :=
  sLen x0 fun x34 =>
  sLt x7 x34 fun x35 =>
  sIf x35 (sIxS x0 x7 1 fun x42 =>
  sLd h_9 x42 fun x43 =>
  ldisc_Disc_Input_c x23 x43 h_9 fun x44 h_10 => 
  sTup x44 0 fun x45 =>
  sTup x44 1 fun x46 =>
  sIxS x0 x7 1 fun x51 =>
  sLd h_10 x51 fun x52 =>
  ldisc_Disc_Input_c x25 x52 h_10 fun x53 h_11 => 
  sTup x53 0 fun x54 =>
  sTup x53 1 fun x55 =>
  sNe x55 x46 fun x58 =>
  sOr x58 (fun k_4 =>
  sLen x54 fun x61 =>
  sGt x61 (.int .i64 1) fun x62 =>
  k_4 x62) fun x63 =>
  sOr x63 (fun k_2 =>
  sLen x54 fun x66 =>
  sEq x66 (.int .i64 1) fun x67 =>
  sAnd x67 (fun k_3 =>
  sIxS x54 (.int .i64 0) 1 fun x70 =>
  sLd h_11 x70 fun x71 =>
  sNe x71 (.int .u8 7) fun x72 =>
  k_3 x72) fun x73 =>
  k_2 x73) fun x74 =>
  sOrH x74 h_11 (fun k_1 =>
  ldisc_Disc_Line_c x23 h_11 fun x77 h_16 => 
  ldisc_Disc_Line_c x25 h_16 fun x79 h_17 => 
  betonyref01_Same_c x77 x79 h_17 fun x80 h_18 => 
  sNot x80 fun x81 =>
  k_1 x81 h_18) fun x82 h_12 =>
  sOrH x82 h_12 (fun k =>
  ldisc_Disc_Ready_c x23 h_12 fun x85 h_14 => 
  ldisc_Disc_Ready_c x25 h_14 fun x87 h_15 => 
  sNe x85 x87 fun x88 =>
  k x88 h_15) fun x89 h_13 =>
  sIf x89 (R (.bool false) h_13) (sAdd .i64 x7 (.int .i64 1) fun x37 =>
  next x37 h_13)) (betonylaw18_awake_c  h_9 fun x90 h_19 => 
  R x90 h_19)
def betonylaw18_LdiscQuiet_S (x0 : Value) (h : Heap) (R : Value → Heap → Prop) : Prop :=
  sLen x0 fun x13 =>
  sGt x13 (.int .i64 200) fun x14 =>
  sIf x14 (betonylaw18_awake_c  h fun x15 h => 
  R x15 h) (betonyref17_Plain_c  h fun x16 h_1 => 
  sNew h_1 #[.int .i64 0, .int .i64 0, .int .i64 0, .int .i64 0, .int .i64 0, .int .i64 0, .int .i64 0, .int .i64 0, .int .i64 0, .int .i64 0, .int .i64 0, .int .i64 0, .int .i64 0, .int .i64 0, .int .i64 0, .int .i64 0, .int .i64 0] 28 fun x3 h_2 => 
  sStN h_2 x3 x16 17 fun h_3 => 
  sLdN h_3 x3 17 fun x17 =>
  sNew h_3 #[.int .i64 0, .int .i64 0, .int .i64 0, .int .i64 0, .int .i64 0, .int .i64 0, .int .i64 0, .int .i64 0, .int .i64 0, .int .i64 0, .int .i64 0, .int .i64 0, .int .i64 0, .int .i64 0, .int .i64 0, .int .i64 0, .int .i64 0] 28 fun x4 h_4 => 
  sStN h_4 x4 x17 17 fun h_5 => 
  sOff x4 2 fun x18 =>
  sLd h_5 x18 fun x19 =>
  sBits .andNot .i64 x19 (.int .i64 18) fun x20 =>
  sOff x4 2 fun x21 =>
  sSt h_5 x21 x20 fun h_6 => 
  ∃ C : Heap → Prop, C h_6 ∧ (sLdN h_6 x3 17 fun x22 =>
  ldisc_New_c x22 h_6 fun x23 h_7 => C h_7 ∧ (
  sLdNC C x4 17 fun x24 =>
  ldisc_New_c x24 h_7 fun x25 h_8 => 
  sEqlNil x23 fun x27 =>
  sOr x27 (fun k_5 =>
  sEqlNil x25 fun x30 =>
  k_5 x30) fun x31 =>
  sIf x31 (R (.bool false) h_8) (sLoop (S := Value) (fun nxt s h => betonylaw18_LdiscQuiet_l1 R x0 x23 x25 (fun x7' h => nxt x7' h) s h) (.int .i64 0) h_8))))
set_option maxRecDepth 100000 in
theorem betonylaw18_LdiscQuiet_runs {x0 : Value} {h : Heap} {R : Value → Heap → Prop} (H : betonylaw18_LdiscQuiet_S x0 h R) : betonylaw18_LdiscQuiet_c x0 h R := by
  unfold betonylaw18_LdiscQuiet_S at H
  refine runs_of (b := ⟨([x0, undef, undef, undef, undef, undef, undef, undef, undef, undef, undef, undef, undef, undef, undef, undef, undef, undef, undef, undef, undef, undef, undef, undef, undef, undef, undef, undef, undef, undef, undef, undef, undef, undef, undef, undef, undef, undef, undef, undef, undef, undef, undef, undef, undef, undef, undef, undef, undef, undef] ++ [undef, undef, undef, undef, undef, undef, undef, undef, undef, undef, undef, undef, undef, undef, undef, undef, undef, undef, undef, undef, undef, undef, undef, undef, undef, undef, undef, undef, undef, undef, undef, undef, undef, undef, undef, undef, undef, undef, undef, undef, undef]).toArray, []⟩) Try.call6 Try.func6 rfl (by kernel_rfl) (fun w0 HA => ?_)
  refine wp_seq ?_
  refine lwp_list ?_
  refine ls_assign (x := (.bool false)) (by kernel_rfl) (by kernel_rfl) ?_
  refine ls_nil ?_
  refine then_normal ?_
  refine fr_eq (b := ⟨([x0, undef, (.bool false), undef, undef, undef, undef, undef, undef, undef, undef, undef, undef, undef, undef, undef, undef, undef, undef, undef, undef, undef, undef, undef, undef, undef, undef, undef, undef, undef, undef, undef, undef, undef, undef, undef, undef, undef, undef, undef, undef, undef, undef, undef, undef, undef, undef, undef, undef, undef] ++ [undef, undef, undef, undef, undef, undef, undef, undef, undef, undef, undef, undef, undef, undef, undef, undef, undef, undef, undef, undef, undef, undef, undef, undef, undef, undef, undef, undef, undef, undef, undef, undef, undef, undef, undef, undef, undef, undef, undef, undef, undef]).toArray, []⟩) (by kernel_rfl) ?_
  refine wp_seq ?_
  refine wp_seq ?_
  refine lwp_list ?_
  refine ls_move (x := x0) (by kernel_rfl) (by kernel_rfl) ?_
  refine ls_p (d := some 13) (by kernel_rfl) (by kernel_rfl) (p_len Try.underlying30 (by kernel_rfl) H) (fun x13 H => ?_)
  refine ls_p (d := some 14) (by kernel_rfl) (by kernel_rfl) (p_sGt (by kernel_rfl) (by kernel_rfl) H) (fun x14 H => ?_)
  refine ls_nil ?_
  refine then_normal ?_
  refine fr_eq (b := ⟨([x0, undef, (.bool false), undef, undef, undef, undef, undef, undef, undef, undef, undef, x0, x13, x14, undef, undef, undef, undef, undef, undef, undef, undef, undef, undef, undef, undef, undef, undef, undef, undef, undef, undef, undef, undef, undef, undef, undef, undef, undef, undef, undef, undef, undef, undef, undef, undef, undef, undef, undef] ++ [undef, undef, undef, undef, undef, undef, undef, undef, undef, undef, undef, undef, undef, undef, undef, undef, undef, undef, undef, undef, undef, undef, undef, undef, undef, undef, undef, undef, undef, undef, undef, undef, undef, undef, undef, undef, undef, undef, undef, undef, undef]).toArray, []⟩) (by kernel_rfl) ?_
  refine wp_if rfl H (fun H => ?_) (fun H => ?_)
  · refine wp_seq ?_
    refine lwp_list ?_
    refine ls_d (d := some 15) (by kernel_rfl) (by kernel_rfl) HA (d_call (by kernel_rfl) (by kernel_rfl) H) (fun x15 h w H HA => ?_)
    refine ls_assign (x := x15) (by kernel_rfl) (by kernel_rfl) ?_
    refine ls_nil ?_
    refine then_normal ?_
    refine fr_eq (b := ⟨([x0, undef, x15, undef, undef, undef, undef, undef, undef, undef, undef, undef, x0, x13, x14, x15, undef, undef, undef, undef, undef, undef, undef, undef, undef, undef, undef, undef, undef, undef, undef, undef, undef, undef, undef, undef, undef, undef, undef, undef, undef, undef, undef, undef, undef, undef, undef, undef, undef, undef] ++ [undef, undef, undef, undef, undef, undef, undef, undef, undef, undef, undef, undef, undef, undef, undef, undef, undef, undef, undef, undef, undef, undef, undef, undef, undef, undef, undef, undef, undef, undef, undef, undef, undef, undef, undef, undef, undef, undef, undef, undef, undef]).toArray, []⟩) (by kernel_rfl) ?_
    refine wp_ret ?_
    refine then_ret ?_
    exact end1 (Try.results6) (by kernel_rfl) (by kernel_rfl) HA H _ (.inr rfl)
  · refine wp_skip ?_
    refine then_normal ?_
    refine fr_eq (b := ⟨([x0, undef, (.bool false), undef, undef, undef, undef, undef, undef, undef, undef, undef, x0, x13, x14, undef, undef, undef, undef, undef, undef, undef, undef, undef, undef, undef, undef, undef, undef, undef, undef, undef, undef, undef, undef, undef, undef, undef, undef, undef, undef, undef, undef, undef, undef, undef, undef, undef, undef, undef] ++ [undef, undef, undef, undef, undef, undef, undef, undef, undef, undef, undef, undef, undef, undef, undef, undef, undef, undef, undef, undef, undef, undef, undef, undef, undef, undef, undef, undef, undef, undef, undef, undef, undef, undef, undef, undef, undef, undef, undef, undef, undef]).toArray, []⟩) (by kernel_rfl) ?_
    refine wp_seq ?_
    refine lwp_list ?_
    refine ls_d (d := some 16) (by kernel_rfl) (by kernel_rfl) HA (d_call (by kernel_rfl) (by kernel_rfl) H) (fun x16 h_1 w_1 H HA_1 => ?_)
    refine ls_d (d := some 3) (by kernel_rfl) (by kernel_rfl) HA_1 (d_alloc Try.zeroValue28 H) (fun x3 h_2 w_2 H HA_2 => ?_)
    refine ls_d (d := none) (by kernel_rfl) (by kernel_rfl) HA_2 (d_stn Try.sizeOf28 (by kernel_rfl) (by kernel_rfl) H) (fun _ h_3 w_3 H HA_3 => ?_)
    refine ls_nil ?_
    refine then_normal ?_
    refine fr_eq (b := ⟨([x0, undef, (.bool false), x3, undef, undef, undef, undef, undef, undef, undef, undef, x0, x13, x14, undef, x16, undef, undef, undef, undef, undef, undef, undef, undef, undef, undef, undef, undef, undef, undef, undef, undef, undef, undef, undef, undef, undef, undef, undef, undef, undef, undef, undef, undef, undef, undef, undef, undef, undef] ++ [undef, undef, undef, undef, undef, undef, undef, undef, undef, undef, undef, undef, undef, undef, undef, undef, undef, undef, undef, undef, undef, undef, undef, undef, undef, undef, undef, undef, undef, undef, undef, undef, undef, undef, undef, undef, undef, undef, undef, undef, undef]).toArray, []⟩) (by kernel_rfl) ?_
    refine wp_seq ?_
    refine lwp_list ?_
    refine ls_y (d := some 17) (by kernel_rfl) (by kernel_rfl) HA_3 (y_ldn Try.isAgg28 Try.sizeOf28 (by kernel_rfl) H) (fun x17 H => ?_)
    refine ls_d (d := some 4) (by kernel_rfl) (by kernel_rfl) HA_3 (d_alloc Try.zeroValue28 H) (fun x4 h_4 w_4 H HA_4 => ?_)
    refine ls_d (d := none) (by kernel_rfl) (by kernel_rfl) HA_4 (d_stn Try.sizeOf28 (by kernel_rfl) (by kernel_rfl) H) (fun _ h_5 w_5 H HA_5 => ?_)
    refine ls_nil ?_
    refine then_normal ?_
    refine fr_eq (b := ⟨([x0, undef, (.bool false), x3, x4, undef, undef, undef, undef, undef, undef, undef, x0, x13, x14, undef, x16, x17, undef, undef, undef, undef, undef, undef, undef, undef, undef, undef, undef, undef, undef, undef, undef, undef, undef, undef, undef, undef, undef, undef, undef, undef, undef, undef, undef, undef, undef, undef, undef, undef] ++ [undef, undef, undef, undef, undef, undef, undef, undef, undef, undef, undef, undef, undef, undef, undef, undef, undef, undef, undef, undef, undef, undef, undef, undef, undef, undef, undef, undef, undef, undef, undef, undef, undef, undef, undef, undef, undef, undef, undef, undef, undef]).toArray, []⟩) (by kernel_rfl) ?_
    refine wp_seq ?_
    refine lwp_list ?_
    refine ls_p (d := some 18) (by kernel_rfl) (by kernel_rfl) (p_off Try.underlying28 rfl (fun w => ⟨_, Try.sizeOf3 w⟩) rfl (by kernel_rfl) H) (fun x18 H => ?_)
    refine ls_y (d := some 19) (by kernel_rfl) (by kernel_rfl) HA_5 (y_ld Try.isAgg3 (by kernel_rfl) H) (fun x19 H => ?_)
    refine ls_p (d := some 20) (by kernel_rfl) (by kernel_rfl) (p_bits (by decide) (by kernel_rfl) (by kernel_rfl) H) (fun x20 H => ?_)
    refine ls_p (d := some 21) (by kernel_rfl) (by kernel_rfl) (p_off Try.underlying28 rfl (fun w => ⟨_, Try.sizeOf3 w⟩) rfl (by kernel_rfl) H) (fun x21 H => ?_)
    refine ls_d (d := none) (by kernel_rfl) (by kernel_rfl) HA_5 (d_st Try.sizeOf3 (by kernel_rfl) (by kernel_rfl) H) (fun _ h_6 w_6 H HA_6 => ?_)
    refine ls_nil ?_
    refine then_normal ?_
    refine fr_eq (b := ⟨([x0, undef, (.bool false), x3, x4, undef, undef, undef, undef, undef, undef, undef, x0, x13, x14, undef, x16, x17, x18, x19, x20, x21, undef, undef, undef, undef, undef, undef, undef, undef, undef, undef, undef, undef, undef, undef, undef, undef, undef, undef, undef, undef, undef, undef, undef, undef, undef, undef, undef, undef] ++ [undef, undef, undef, undef, undef, undef, undef, undef, undef, undef, undef, undef, undef, undef, undef, undef, undef, undef, undef, undef, undef, undef, undef, undef, undef, undef, undef, undef, undef, undef, undef, undef, undef, undef, undef, undef, undef, undef, undef, undef, undef]).toArray, []⟩) (by kernel_rfl) ?_
    refine wp_seq ?_
    obtain ⟨C, HC, H⟩ := H
    refine lwp_mx (Nat.testBit 10) (Nat.testBit 2) (Nat.testBit 48) [0, 1, 0, 7, 15, 31] (Nat.testBit 1) C [0, 1, 2, 3, 4, 5] (by kernel_rfl) (by kernel_rfl) (by kernel_rfl) (by kernel_rfl) HA_6 HC ?_
    intro w_7 HA_7
    refine lm_b (d := some 22) (by kernel_rfl) rfl (by kernel_rfl) (by kernel_rfl) (by kernel_rfl) (by kernel_rfl) (y_ldn Try.isAgg28 Try.sizeOf28 (by kernel_rfl) H) (fun x22 H => ?_)
    refine lm_dc (d := some 23) (by kernel_rfl) rfl (by kernel_rfl) (by kernel_rfl) (by kernel_rfl) HA_7 (d_call (by kernel_rfl) (by kernel_rfl) H) (fun x23 h_7 w_8 H HA_8 => ?_)
    refine lm_f (d := some 24) (by kernel_rfl) rfl (by kernel_rfl) (by kernel_rfl) (by kernel_rfl) (by kernel_rfl) (c_ldn Try.isAgg28 Try.sizeOf28 (by kernel_rfl) H) (fun x24 H => ?_)
    refine lm_d (d := some 25) (by kernel_rfl) rfl (by kernel_rfl) (by kernel_rfl) (by kernel_rfl) HA_8 (d_call (by kernel_rfl) (by kernel_rfl) H) (fun x25 h_8 w_9 H HA_9 => ?_)
    refine lm_al (x := x23) (d := some 5) (by kernel_rfl) rfl (by kernel_rfl) (by kernel_rfl) (al_assign (by kernel_rfl)) ?_
    refine lm_al (x := x25) (d := some 6) (by kernel_rfl) rfl (by kernel_rfl) (by kernel_rfl) (al_assign (by kernel_rfl)) ?_
    refine lm_nil ?_
    refine then_normal ?_
    refine fr_eq (b := ⟨([x0, undef, (.bool false), x3, x4, x23, x25, undef, undef, undef, undef, undef, x0, x13, x14, undef, x16, x17, x18, x19, x20, x21, x22, x23, x24, x25, undef, undef, undef, undef, undef, undef, undef, undef, undef, undef, undef, undef, undef, undef, undef, undef, undef, undef, undef, undef, undef, undef, undef, undef] ++ [undef, undef, undef, undef, undef, undef, undef, undef, undef, undef, undef, undef, undef, undef, undef, undef, undef, undef, undef, undef, undef, undef, undef, undef, undef, undef, undef, undef, undef, undef, undef, undef, undef, undef, undef, undef, undef, undef, undef, undef, undef]).toArray, []⟩) (by kernel_rfl) ?_
    refine wp_seq ?_
    refine wp_seq ?_
    refine lwp_list ?_
    refine ls_move (x := x23) (by kernel_rfl) (by kernel_rfl) ?_
    refine ls_p (d := some 27) (by kernel_rfl) (by kernel_rfl) (p_eqlNil Try.underlying24 (by kernel_rfl) (by kernel_rfl) H) (fun x27 H => ?_)
    refine ls_move (x := x27) (by kernel_rfl) (by kernel_rfl) ?_
    refine ls_or [(), (), ()] (fun K a w => ∃ (D : Nat → Value) (x31 : Value), a = ⟨([x0, undef, (.bool false), x3, x4, x23, x25, undef, undef, undef, undef, undef, x0, x13, x14, undef, x16, x17, x18, x19, x20, x21, x22, x23, x24, x25, x23, x27, x27, (D 0), (D 1), x31, undef, undef, undef, undef, undef, undef, undef, undef, undef, undef, undef, undef, undef, undef, undef, undef, undef, undef] ++ [undef, undef, undef, undef, undef, undef, undef, undef, undef, undef, undef, undef, undef, undef, undef, undef, undef, undef, undef, undef, undef, undef, undef, undef, undef, undef, undef, undef, undef, undef, undef, undef, undef, undef, undef, undef, undef, undef, undef, undef, undef]).toArray, []⟩ ∧ At w0 w h_8 ∧ K x31) H (fun hb_5 H => ?_) (fun hb_5 H => ?_) ?_
    · refine ls_move (x := x25) (by rw [hb_5]; kernel_rfl) (by kernel_rfl) ?_
      refine ls_p (d := some 30) (by kernel_rfl) (by rw [hb_5]; kernel_rfl) (p_eqlNil Try.underlying24 (by kernel_rfl) (by kernel_rfl) H) (fun x30 H => ?_)
      refine ls_pick_f (y := x30) (by kernel_rfl) (by rw [hb_5]; kernel_rfl) (by kernel_rfl) ?_
      refine ls_nil ?_
      refine then_normal ?_
      exact ⟨(fun i => ([x25, x30]).getD i undef), x30, by kernel_rfl, HA_9, H⟩
    · refine ls_skip (d := some 29) (by kernel_rfl) (by rw [hb_5]; kernel_rfl) ?_
      refine ls_skip (d := some 30) (by kernel_rfl) (by rw [hb_5]; kernel_rfl) ?_
      refine ls_pick_t (x := (.bool true)) (by kernel_rfl) (by rw [hb_5]; kernel_rfl) (by kernel_rfl) ?_
      refine ls_nil ?_
      refine then_normal ?_
      exact ⟨(fun i => ([undef, undef]).getD i undef), (.bool true), by kernel_rfl, HA_9, H⟩
    · rintro _ w_10 ⟨D, x31, rfl, HA_10, H⟩
      refine ls_nil ?_
      refine then_normal ?_
      refine fr_eq (b := ⟨([x0, undef, (.bool false), x3, x4, x23, x25, undef, undef, undef, undef, undef, x0, x13, x14, undef, x16, x17, x18, x19, x20, x21, x22, x23, x24, x25, x23, x27, x27, (D 0), (D 1), x31, undef, undef, undef, undef, undef, undef, undef, undef, undef, undef, undef, undef, undef, undef, undef, undef, undef, undef] ++ [undef, undef, undef, undef, undef, undef, undef, undef, undef, undef, undef, undef, undef, undef, undef, undef, undef, undef, undef, undef, undef, undef, undef, undef, undef, undef, undef, undef, undef, undef, undef, undef, undef, undef, undef, undef, undef, undef, undef, undef, undef]).toArray, []⟩) (by kernel_rfl) ?_
      refine wp_if rfl H (fun H => ?_) (fun H => ?_)
      · refine wp_seq ?_
        refine lwp_list ?_
        refine ls_assign (x := (.bool false)) (by kernel_rfl) (by kernel_rfl) ?_
        refine ls_nil ?_
        refine then_normal ?_
        refine fr_eq (b := ⟨([x0, undef, (.bool false), x3, x4, x23, x25, undef, undef, undef, undef, undef, x0, x13, x14, undef, x16, x17, x18, x19, x20, x21, x22, x23, x24, x25, x23, x27, x27, (D 0), (D 1), x31, undef, undef, undef, undef, undef, undef, undef, undef, undef, undef, undef, undef, undef, undef, undef, undef, undef, undef] ++ [undef, undef, undef, undef, undef, undef, undef, undef, undef, undef, undef, undef, undef, undef, undef, undef, undef, undef, undef, undef, undef, undef, undef, undef, undef, undef, undef, undef, undef, undef, undef, undef, undef, undef, undef, undef, undef, undef, undef, undef, undef]).toArray, []⟩) (by kernel_rfl) ?_
        refine wp_ret ?_
        refine then_ret ?_
        exact end1 (Try.results6) (by kernel_rfl) (by kernel_rfl) HA_10 H _ (.inr rfl)
      · refine wp_skip ?_
        refine then_normal ?_
        refine fr_eq (b := ⟨([x0, undef, (.bool false), x3, x4, x23, x25, undef, undef, undef, undef, undef, x0, x13, x14, undef, x16, x17, x18, x19, x20, x21, x22, x23, x24, x25, x23, x27, x27, (D 0), (D 1), x31, undef, undef, undef, undef, undef, undef, undef, undef, undef, undef, undef, undef, undef, undef, undef, undef, undef, undef] ++ [undef, undef, undef, undef, undef, undef, undef, undef, undef, undef, undef, undef, undef, undef, undef, undef, undef, undef, undef, undef, undef, undef, undef, undef, undef, undef, undef, undef, undef, undef, undef, undef, undef, undef, undef, undef, undef, undef, undef, undef, undef]).toArray, []⟩) (by kernel_rfl) ?_
        refine wp_seq ?_
        refine wp_seq ?_
        refine lwp_list ?_
        refine ls_assign (x := (.int .i64 0)) (by kernel_rfl) (by kernel_rfl) ?_
        refine ls_nil ?_
        refine then_normal ?_
        refine fr_eq (b := ⟨([x0, undef, (.bool false), x3, x4, x23, x25, (.int .i64 0), undef, undef, undef, undef, x0, x13, x14, undef, x16, x17, x18, x19, x20, x21, x22, x23, x24, x25, x23, x27, x27, (D 0), (D 1), x31, undef, undef, undef, undef, undef, undef, undef, undef, undef, undef, undef, undef, undef, undef, undef, undef, undef, undef] ++ [undef, undef, undef, undef, undef, undef, undef, undef, undef, undef, undef, undef, undef, undef, undef, undef, undef, undef, undef, undef, undef, undef, undef, undef, undef, undef, undef, undef, undef, undef, undef, undef, undef, undef, undef, undef, undef, undef, undef, undef, undef]).toArray, []⟩) (by kernel_rfl) ?_
        refine wp_block ?_
        obtain ⟨I, m, H0, HB⟩ := H
        refine wp_loop (fun a w => ∃ (D_1 : Nat → Value) (x7 : Value) (h_9 : Heap), a = ⟨([x0, undef, (D_1 0), x3, x4, x23, x25, x7, (D_1 1), (D_1 2), (D_1 3), (D_1 4), x0, x13, x14, undef, x16, x17, x18, x19, x20, x21, x22, x23, x24, x25, x23, x27, x27, (D 0), (D 1), x31, (D_1 5), (D_1 6), (D_1 7), (D_1 8), (D_1 9), (D_1 10), (D_1 11), (D_1 12), (D_1 13), (D_1 14), (D_1 15), (D_1 16), (D_1 17), (D_1 18), (D_1 19), (D_1 20), (D_1 21), (D_1 22)] ++ [(D_1 23), (D_1 24), (D_1 25), (D_1 26), (D_1 27), (D_1 28), (D_1 29), (D_1 30), (D_1 31), (D_1 32), (D_1 33), (D_1 34), (D_1 35), (D_1 36), (D_1 37), (D_1 38), (D_1 39), (D_1 40), (D_1 41), (D_1 42), (D_1 43), (D_1 44), (D_1 45), (D_1 46), (D_1 47), (D_1 48), (D_1 49), (D_1 50), (D_1 51), (D_1 52), (D_1 53), (D_1 54), (D_1 55), (D_1 56), (D_1 57), (D_1 58), (D_1 59), (D_1 60), (D_1 61), (D_1 62), undef]).toArray, []⟩ ∧ At w0 w h_9 ∧ I x7 h_9) (fun a w => m (a.tmps.getD 7 undef) w.heap) ?_ ?_
        · exact ⟨(fun i => ([(.bool false), undef, undef, undef, undef, undef, undef, undef, undef, undef, undef, undef, undef, undef, undef, undef, undef, undef, undef, undef, undef, undef, undef, undef, undef, undef, undef, undef, undef, undef, undef, undef, undef, undef, undef, undef, undef, undef, undef, undef, undef, undef, undef, undef, undef, undef, undef, undef, undef, undef] ++ [undef, undef, undef, undef, undef, undef, undef, undef, undef, undef, undef, undef, undef]).getD i undef), (.int .i64 0), h_8, by kernel_rfl, HA_10, H0⟩
        · rintro _ w_11 ⟨D_1, x7, h_9, rfl, HA_11, HI⟩
          have H : betonylaw18_LdiscQuiet_l1 R x0 x23 x25 (fun x7' h' => I x7' h' ∧ m x7' h' < m x7 h_9) x7 h_9 := HB x7 h_9 HI
          clear HB H0 HI
          unfold betonylaw18_LdiscQuiet_l1 at H
          refine wp_seq ?_
          refine wp_seq ?_
          refine lwp_list ?_
          refine ls_move (x := x7) (by kernel_rfl) (by kernel_rfl) ?_
          refine ls_move (x := x0) (by kernel_rfl) (by kernel_rfl) ?_
          refine ls_p (d := some 34) (by kernel_rfl) (by kernel_rfl) (p_len Try.underlying30 (by kernel_rfl) H) (fun x34 H => ?_)
          refine ls_p (d := some 35) (by kernel_rfl) (by kernel_rfl) (p_sLt (by kernel_rfl) (by kernel_rfl) H) (fun x35 H => ?_)
          refine ls_nil ?_
          refine then_normal ?_
          refine fr_eq (b := ⟨([x0, undef, (D_1 0), x3, x4, x23, x25, x7, (D_1 1), (D_1 2), (D_1 3), (D_1 4), x0, x13, x14, undef, x16, x17, x18, x19, x20, x21, x22, x23, x24, x25, x23, x27, x27, (D 0), (D 1), x31, x7, x0, x34, x35, (D_1 9), (D_1 10), (D_1 11), (D_1 12), (D_1 13), (D_1 14), (D_1 15), (D_1 16), (D_1 17), (D_1 18), (D_1 19), (D_1 20), (D_1 21), (D_1 22)] ++ [(D_1 23), (D_1 24), (D_1 25), (D_1 26), (D_1 27), (D_1 28), (D_1 29), (D_1 30), (D_1 31), (D_1 32), (D_1 33), (D_1 34), (D_1 35), (D_1 36), (D_1 37), (D_1 38), (D_1 39), (D_1 40), (D_1 41), (D_1 42), (D_1 43), (D_1 44), (D_1 45), (D_1 46), (D_1 47), (D_1 48), (D_1 49), (D_1 50), (D_1 51), (D_1 52), (D_1 53), (D_1 54), (D_1 55), (D_1 56), (D_1 57), (D_1 58), (D_1 59), (D_1 60), (D_1 61), (D_1 62), undef]).toArray, []⟩) (by kernel_rfl) ?_
          refine wp_if rfl H (fun H => ?_) (fun H => ?_)
          · refine wp_skip ?_
            refine then_normal ?_
            refine fr_eq (b := ⟨([x0, undef, (D_1 0), x3, x4, x23, x25, x7, (D_1 1), (D_1 2), (D_1 3), (D_1 4), x0, x13, x14, undef, x16, x17, x18, x19, x20, x21, x22, x23, x24, x25, x23, x27, x27, (D 0), (D 1), x31, x7, x0, x34, x35, (D_1 9), (D_1 10), (D_1 11), (D_1 12), (D_1 13), (D_1 14), (D_1 15), (D_1 16), (D_1 17), (D_1 18), (D_1 19), (D_1 20), (D_1 21), (D_1 22)] ++ [(D_1 23), (D_1 24), (D_1 25), (D_1 26), (D_1 27), (D_1 28), (D_1 29), (D_1 30), (D_1 31), (D_1 32), (D_1 33), (D_1 34), (D_1 35), (D_1 36), (D_1 37), (D_1 38), (D_1 39), (D_1 40), (D_1 41), (D_1 42), (D_1 43), (D_1 44), (D_1 45), (D_1 46), (D_1 47), (D_1 48), (D_1 49), (D_1 50), (D_1 51), (D_1 52), (D_1 53), (D_1 54), (D_1 55), (D_1 56), (D_1 57), (D_1 58), (D_1 59), (D_1 60), (D_1 61), (D_1 62), undef]).toArray, []⟩) (by kernel_rfl) ?_
            refine wp_seq ?_
            refine wp_block ?_
            refine wp_seq ?_
            refine lwp_list ?_
            refine ls_move (x := x23) (by kernel_rfl) (by kernel_rfl) ?_
            refine ls_move (x := x0) (by kernel_rfl) (by kernel_rfl) ?_
            refine ls_move (x := x7) (by kernel_rfl) (by kernel_rfl) ?_
            refine ls_p (d := some 42) (by kernel_rfl) (by kernel_rfl) (p_ixs Try.underlying30 Try.sizeOf5 (by kernel_rfl) (by kernel_rfl) H) (fun x42 H => ?_)
            refine ls_y (d := some 43) (by kernel_rfl) (by kernel_rfl) HA_11 (y_ld Try.isAgg5 (by kernel_rfl) H) (fun x43 H => ?_)
            refine ls_d (d := some 44) (by kernel_rfl) (by kernel_rfl) HA_11 (d_call (by kernel_rfl) (by kernel_rfl) H) (fun x44 h_10 w_12 H HA_12 => ?_)
            refine ls_fr (b := ⟨([x0, undef, (D_1 0), x3, x4, x23, x25, x7, (D_1 1), (D_1 2), (D_1 3), (D_1 4), x0, x13, x14, undef, x16, x17, x18, x19, x20, x21, x22, x23, x24, x25, x23, x27, x27, (D 0), (D 1), x31, x7, x0, x34, x35, (D_1 9), (D_1 10), (D_1 11), x23, x0, x7, x42, x43, x44, (D_1 18), (D_1 19), (D_1 20), (D_1 21), (D_1 22)] ++ [(D_1 23), (D_1 24), (D_1 25), (D_1 26), (D_1 27), (D_1 28), (D_1 29), (D_1 30), (D_1 31), (D_1 32), (D_1 33), (D_1 34), (D_1 35), (D_1 36), (D_1 37), (D_1 38), (D_1 39), (D_1 40), (D_1 41), (D_1 42), (D_1 43), (D_1 44), (D_1 45), (D_1 46), (D_1 47), (D_1 48), (D_1 49), (D_1 50), (D_1 51), (D_1 52), (D_1 53), (D_1 54), (D_1 55), (D_1 56), (D_1 57), (D_1 58), (D_1 59), (D_1 60), (D_1 61), (D_1 62), undef]).toArray, []⟩) (by kernel_rfl) ?_
            refine ls_move (x := x44) (by kernel_rfl) (by kernel_rfl) ?_
            refine ls_p (d := some 45) (by kernel_rfl) (by kernel_rfl) (p_tup (by kernel_rfl) H) (fun x45 H => ?_)
            refine ls_p (d := some 46) (by kernel_rfl) (by kernel_rfl) (p_tup (by kernel_rfl) H) (fun x46 H => ?_)
            refine ls_assign (x := x45) (by kernel_rfl) (by kernel_rfl) ?_
            refine ls_assign (x := x46) (by kernel_rfl) (by kernel_rfl) ?_
            refine ls_nil ?_
            refine then_normal ?_
            refine fr_eq (b := ⟨([x0, undef, (D_1 0), x3, x4, x23, x25, x7, x45, x46, (D_1 3), (D_1 4), x0, x13, x14, undef, x16, x17, x18, x19, x20, x21, x22, x23, x24, x25, x23, x27, x27, (D 0), (D 1), x31, x7, x0, x34, x35, (D_1 9), (D_1 10), x44, x23, x0, x7, x42, x43, x44, x45, x46, (D_1 20), (D_1 21), (D_1 22)] ++ [(D_1 23), (D_1 24), (D_1 25), (D_1 26), (D_1 27), (D_1 28), (D_1 29), (D_1 30), (D_1 31), (D_1 32), (D_1 33), (D_1 34), (D_1 35), (D_1 36), (D_1 37), (D_1 38), (D_1 39), (D_1 40), (D_1 41), (D_1 42), (D_1 43), (D_1 44), (D_1 45), (D_1 46), (D_1 47), (D_1 48), (D_1 49), (D_1 50), (D_1 51), (D_1 52), (D_1 53), (D_1 54), (D_1 55), (D_1 56), (D_1 57), (D_1 58), (D_1 59), (D_1 60), (D_1 61), (D_1 62), undef]).toArray, []⟩) (by kernel_rfl) ?_
            refine wp_seq ?_
            refine lwp_list ?_
            refine ls_move (x := x25) (by kernel_rfl) (by kernel_rfl) ?_
            refine ls_move (x := x0) (by kernel_rfl) (by kernel_rfl) ?_
            refine ls_move (x := x7) (by kernel_rfl) (by kernel_rfl) ?_
            refine ls_p (d := some 51) (by kernel_rfl) (by kernel_rfl) (p_ixs Try.underlying30 Try.sizeOf5 (by kernel_rfl) (by kernel_rfl) H) (fun x51 H => ?_)
            refine ls_y (d := some 52) (by kernel_rfl) (by kernel_rfl) HA_12 (y_ld Try.isAgg5 (by kernel_rfl) H) (fun x52 H => ?_)
            refine ls_d (d := some 53) (by kernel_rfl) (by kernel_rfl) HA_12 (d_call (by kernel_rfl) (by kernel_rfl) H) (fun x53 h_11 w_13 H HA_13 => ?_)
            refine ls_fr (b := ⟨([x0, undef, (D_1 0), x3, x4, x23, x25, x7, x45, x46, (D_1 3), (D_1 4), x0, x13, x14, undef, x16, x17, x18, x19, x20, x21, x22, x23, x24, x25, x23, x27, x27, (D 0), (D 1), x31, x7, x0, x34, x35, (D_1 9), (D_1 10), x44, x23, x0, x7, x42, x43, x44, x45, x46, (D_1 20), x25, x0] ++ [x7, x51, x52, x53, (D_1 27), (D_1 28), (D_1 29), (D_1 30), (D_1 31), (D_1 32), (D_1 33), (D_1 34), (D_1 35), (D_1 36), (D_1 37), (D_1 38), (D_1 39), (D_1 40), (D_1 41), (D_1 42), (D_1 43), (D_1 44), (D_1 45), (D_1 46), (D_1 47), (D_1 48), (D_1 49), (D_1 50), (D_1 51), (D_1 52), (D_1 53), (D_1 54), (D_1 55), (D_1 56), (D_1 57), (D_1 58), (D_1 59), (D_1 60), (D_1 61), (D_1 62), undef]).toArray, []⟩) (by kernel_rfl) ?_
            refine ls_move (x := x53) (by kernel_rfl) (by kernel_rfl) ?_
            refine ls_p (d := some 54) (by kernel_rfl) (by kernel_rfl) (p_tup (by kernel_rfl) H) (fun x54 H => ?_)
            refine ls_p (d := some 55) (by kernel_rfl) (by kernel_rfl) (p_tup (by kernel_rfl) H) (fun x55 H => ?_)
            refine ls_assign (x := x54) (by kernel_rfl) (by kernel_rfl) ?_
            refine ls_assign (x := x55) (by kernel_rfl) (by kernel_rfl) ?_
            refine ls_nil ?_
            refine then_normal ?_
            refine fr_eq (b := ⟨([x0, undef, (D_1 0), x3, x4, x23, x25, x7, x45, x46, x54, x55, x0, x13, x14, undef, x16, x17, x18, x19, x20, x21, x22, x23, x24, x25, x23, x27, x27, (D 0), (D 1), x31, x7, x0, x34, x35, (D_1 9), (D_1 10), x44, x23, x0, x7, x42, x43, x44, x45, x46, x53, x25, x0] ++ [x7, x51, x52, x53, x54, x55, (D_1 29), (D_1 30), (D_1 31), (D_1 32), (D_1 33), (D_1 34), (D_1 35), (D_1 36), (D_1 37), (D_1 38), (D_1 39), (D_1 40), (D_1 41), (D_1 42), (D_1 43), (D_1 44), (D_1 45), (D_1 46), (D_1 47), (D_1 48), (D_1 49), (D_1 50), (D_1 51), (D_1 52), (D_1 53), (D_1 54), (D_1 55), (D_1 56), (D_1 57), (D_1 58), (D_1 59), (D_1 60), (D_1 61), (D_1 62), undef]).toArray, []⟩) (by kernel_rfl) ?_
            refine wp_seq ?_
            refine lwp_list ?_
            refine ls_move (x := x55) (by kernel_rfl) (by kernel_rfl) ?_
            refine ls_move (x := x46) (by kernel_rfl) (by kernel_rfl) ?_
            refine ls_p (d := some 58) (by kernel_rfl) (by kernel_rfl) (p_sNe (by kernel_rfl) (by kernel_rfl) H) (fun x58 H => ?_)
            refine ls_move (x := x58) (by kernel_rfl) (by kernel_rfl) ?_
            refine ls_or [(), (), (), ()] (fun K a w => ∃ (D_2 : Nat → Value) (x63 : Value), a = ⟨([x0, undef, (D_1 0), x3, x4, x23, x25, x7, x45, x46, x54, x55, x0, x13, x14, undef, x16, x17, x18, x19, x20, x21, x22, x23, x24, x25, x23, x27, x27, (D 0), (D 1), x31, x7, x0, x34, x35, (D_1 9), (D_1 10), x44, x23, x0, x7, x42, x43, x44, x45, x46, x53, x25, x0] ++ [x7, x51, x52, x53, x54, x55, x55, x46, x58, x58, (D_2 0), (D_2 1), (D_2 2), x63, (D_1 37), (D_1 38), (D_1 39), (D_1 40), (D_1 41), (D_1 42), (D_1 43), (D_1 44), (D_1 45), (D_1 46), (D_1 47), (D_1 48), (D_1 49), (D_1 50), (D_1 51), (D_1 52), (D_1 53), (D_1 54), (D_1 55), (D_1 56), (D_1 57), (D_1 58), (D_1 59), (D_1 60), (D_1 61), (D_1 62), undef]).toArray, []⟩ ∧ At w0 w h_11 ∧ K x63) H (fun hb_4 H => ?_) (fun hb_4 H => ?_) ?_
            · refine ls_move (x := x54) (by rw [hb_4]; kernel_rfl) (by kernel_rfl) ?_
              refine ls_p (d := some 61) (by kernel_rfl) (by rw [hb_4]; kernel_rfl) (p_len Try.underlying30 (by kernel_rfl) H) (fun x61 H => ?_)
              refine ls_fr (b := ⟨([x0, undef, (D_1 0), x3, x4, x23, x25, x7, x45, x46, x54, x55, x0, x13, x14, undef, x16, x17, x18, x19, x20, x21, x22, x23, x24, x25, x23, x27, x27, (D 0), (D 1), x31, x7, x0, x34, x35, (D_1 9), (D_1 10), x44, x23, x0, x7, x42, x43, x44, x45, x46, x53, x25, x0] ++ [x7, x51, x52, x53, x54, x55, x55, x46, x58, x58, x54, x61, (D_1 35), (D_1 36), (D_1 37), (D_1 38), (D_1 39), (D_1 40), (D_1 41), (D_1 42), (D_1 43), (D_1 44), (D_1 45), (D_1 46), (D_1 47), (D_1 48), (D_1 49), (D_1 50), (D_1 51), (D_1 52), (D_1 53), (D_1 54), (D_1 55), (D_1 56), (D_1 57), (D_1 58), (D_1 59), (D_1 60), (D_1 61), (D_1 62), undef]).toArray, []⟩) (by kernel_rfl) ?_
              refine ls_p (d := some 62) (by kernel_rfl) (by rw [hb_4]; kernel_rfl) (p_sGt (by kernel_rfl) (by kernel_rfl) H) (fun x62 H => ?_)
              refine ls_pick_f (y := x62) (by kernel_rfl) (by rw [hb_4]; kernel_rfl) (by kernel_rfl) ?_
              refine ls_nil ?_
              refine then_normal ?_
              exact ⟨(fun i => ([x54, x61, x62]).getD i undef), x62, by kernel_rfl, HA_13, H⟩
            · refine ls_skip (d := some 60) (by kernel_rfl) (by rw [hb_4]; kernel_rfl) ?_
              refine ls_skip (d := some 61) (by kernel_rfl) (by rw [hb_4]; kernel_rfl) ?_
              refine ls_fr (b := ⟨([x0, undef, (D_1 0), x3, x4, x23, x25, x7, x45, x46, x54, x55, x0, x13, x14, undef, x16, x17, x18, x19, x20, x21, x22, x23, x24, x25, x23, x27, x27, (D 0), (D 1), x31, x7, x0, x34, x35, (D_1 9), (D_1 10), x44, x23, x0, x7, x42, x43, x44, x45, x46, x53, x25, x0] ++ [x7, x51, x52, x53, x54, x55, x55, x46, x58, x58, undef, undef, (D_1 35), (D_1 36), (D_1 37), (D_1 38), (D_1 39), (D_1 40), (D_1 41), (D_1 42), (D_1 43), (D_1 44), (D_1 45), (D_1 46), (D_1 47), (D_1 48), (D_1 49), (D_1 50), (D_1 51), (D_1 52), (D_1 53), (D_1 54), (D_1 55), (D_1 56), (D_1 57), (D_1 58), (D_1 59), (D_1 60), (D_1 61), (D_1 62), undef]).toArray, []⟩) (by kernel_rfl) ?_
              refine ls_skip (d := some 62) (by kernel_rfl) (by rw [hb_4]; kernel_rfl) ?_
              refine ls_pick_t (x := (.bool true)) (by kernel_rfl) (by rw [hb_4]; kernel_rfl) (by kernel_rfl) ?_
              refine ls_nil ?_
              refine then_normal ?_
              exact ⟨(fun i => ([undef, undef, undef]).getD i undef), (.bool true), by kernel_rfl, HA_13, H⟩
            · rintro _ w_14 ⟨D_2, x63, rfl, HA_14, H⟩
              refine ls_move (x := x63) (by kernel_rfl) (by kernel_rfl) ?_
              refine ls_or [(), (), (), (), (), (), (), (), (), ()] (fun K a w => ∃ (D_3 : Nat → Value) (x74 : Value), a = ⟨([x0, undef, (D_1 0), x3, x4, x23, x25, x7, x45, x46, x54, x55, x0, x13, x14, undef, x16, x17, x18, x19, x20, x21, x22, x23, x24, x25, x23, x27, x27, (D 0), (D 1), x31, x7, x0, x34, x35, (D_1 9), (D_1 10), x44, x23, x0, x7, x42, x43, x44, x45, x46, x53, x25, x0] ++ [x7, x51, x52, x53, x54, x55, x55, x46, x58, x58, (D_2 0), (D_2 1), (D_2 2), x63, x63, (D_3 0), (D_3 1), (D_3 2), (D_3 3), (D_3 4), (D_3 5), (D_3 6), (D_3 7), (D_3 8), x74, (D_1 48), (D_1 49), (D_1 50), (D_1 51), (D_1 52), (D_1 53), (D_1 54), (D_1 55), (D_1 56), (D_1 57), (D_1 58), (D_1 59), (D_1 60), (D_1 61), (D_1 62), undef]).toArray, []⟩ ∧ At w0 w h_11 ∧ K x74) H (fun hb_2 H => ?_) (fun hb_2 H => ?_) ?_
              · refine ls_move (x := x54) (by rw [hb_2]; kernel_rfl) (by kernel_rfl) ?_
                refine ls_p (d := some 66) (by kernel_rfl) (by rw [hb_2]; kernel_rfl) (p_len Try.underlying30 (by kernel_rfl) H) (fun x66 H => ?_)
                refine ls_p (d := some 67) (by kernel_rfl) (by rw [hb_2]; kernel_rfl) (p_sEq (by kernel_rfl) (by kernel_rfl) H) (fun x67 H => ?_)
                refine ls_move (x := x67) (by rw [hb_2]; kernel_rfl) (by kernel_rfl) ?_
                refine ls_and [(), (), (), (), ()] (fun K a w => ∃ (D_6 : Nat → Value) (x73 : Value), a = ⟨([x0, undef, (D_1 0), x3, x4, x23, x25, x7, x45, x46, x54, x55, x0, x13, x14, undef, x16, x17, x18, x19, x20, x21, x22, x23, x24, x25, x23, x27, x27, (D 0), (D 1), x31, x7, x0, x34, x35, (D_1 9), (D_1 10), x44, x23, x0, x7, x42, x43, x44, x45, x46, x53, x25, x0] ++ [x7, x51, x52, x53, x54, x55, x55, x46, x58, x58, (D_2 0), (D_2 1), (D_2 2), x63, x63, x54, x66, x67, x67, (D_6 0), (D_6 1), (D_6 2), (D_6 3), x73, (D_1 47), (D_1 48), (D_1 49), (D_1 50), (D_1 51), (D_1 52), (D_1 53), (D_1 54), (D_1 55), (D_1 56), (D_1 57), (D_1 58), (D_1 59), (D_1 60), (D_1 61), (D_1 62), undef]).toArray, []⟩ ∧ At w0 w h_11 ∧ K x73) H (fun hb_3 H => ?_) (fun hb_3 H => ?_) ?_
                · refine ls_move (x := x54) (by rw [hb_3]; kernel_rfl) (by kernel_rfl) ?_
                  refine ls_fr (b := ⟨([x0, undef, (D_1 0), x3, x4, x23, x25, x7, x45, x46, x54, x55, x0, x13, x14, undef, x16, x17, x18, x19, x20, x21, x22, x23, x24, x25, x23, x27, x27, (D 0), (D 1), x31, x7, x0, x34, x35, (D_1 9), (D_1 10), x44, x23, x0, x7, x42, x43, x44, x45, x46, x53, x25, x0] ++ [x7, x51, x52, x53, x54, x55, x55, x46, x58, x58, (D_2 0), (D_2 1), (D_2 2), x63, x63, x54, x66, x67, x67, x54, (D_1 43), (D_1 44), (D_1 45), (D_1 46), (D_1 47), (D_1 48), (D_1 49), (D_1 50), (D_1 51), (D_1 52), (D_1 53), (D_1 54), (D_1 55), (D_1 56), (D_1 57), (D_1 58), (D_1 59), (D_1 60), (D_1 61), (D_1 62), undef]).toArray, []⟩) (by kernel_rfl) ?_
                  refine ls_p (d := some 70) (by kernel_rfl) (by rw [hb_3]; kernel_rfl) (p_ixs Try.underlying30 Try.sizeOf5 (by kernel_rfl) (by kernel_rfl) H) (fun x70 H => ?_)
                  refine ls_y (d := some 71) (by kernel_rfl) (by rw [hb_3]; kernel_rfl) HA_14 (y_ld Try.isAgg5 (by kernel_rfl) H) (fun x71 H => ?_)
                  refine ls_p (d := some 72) (by kernel_rfl) (by rw [hb_3]; kernel_rfl) (p_sNe (by kernel_rfl) (by kernel_rfl) H) (fun x72 H => ?_)
                  refine ls_pick_t (x := x72) (by rw [hb_2]; kernel_rfl) (by rw [hb_3]; kernel_rfl) (by kernel_rfl) ?_
                  refine ls_nil ?_
                  refine then_normal ?_
                  exact ⟨(fun i => ([x54, x70, x71, x72]).getD i undef), x72, by kernel_rfl, HA_14, H⟩
                · refine ls_skip (d := some 69) (by kernel_rfl) (by rw [hb_3]; kernel_rfl) ?_
                  refine ls_fr (b := ⟨([x0, undef, (D_1 0), x3, x4, x23, x25, x7, x45, x46, x54, x55, x0, x13, x14, undef, x16, x17, x18, x19, x20, x21, x22, x23, x24, x25, x23, x27, x27, (D 0), (D 1), x31, x7, x0, x34, x35, (D_1 9), (D_1 10), x44, x23, x0, x7, x42, x43, x44, x45, x46, x53, x25, x0] ++ [x7, x51, x52, x53, x54, x55, x55, x46, x58, x58, (D_2 0), (D_2 1), (D_2 2), x63, x63, x54, x66, x67, x67, undef, (D_1 43), (D_1 44), (D_1 45), (D_1 46), (D_1 47), (D_1 48), (D_1 49), (D_1 50), (D_1 51), (D_1 52), (D_1 53), (D_1 54), (D_1 55), (D_1 56), (D_1 57), (D_1 58), (D_1 59), (D_1 60), (D_1 61), (D_1 62), undef]).toArray, []⟩) (by kernel_rfl) ?_
                  refine ls_skip (d := some 70) (by kernel_rfl) (by rw [hb_3]; kernel_rfl) ?_
                  refine ls_skip (d := some 71) (by kernel_rfl) (by rw [hb_3]; kernel_rfl) ?_
                  refine ls_skip (d := some 72) (by kernel_rfl) (by rw [hb_3]; kernel_rfl) ?_
                  refine ls_pick_f (y := (.bool false)) (by rw [hb_2]; kernel_rfl) (by rw [hb_3]; kernel_rfl) (by kernel_rfl) ?_
                  refine ls_nil ?_
                  refine then_normal ?_
                  exact ⟨(fun i => ([undef, undef, undef, undef]).getD i undef), (.bool false), by kernel_rfl, HA_14, H⟩
                · rintro _ w_23 ⟨D_6, x73, rfl, HA_23, H⟩
                  refine ls_pick_f (y := x73) (by kernel_rfl) (by rw [hb_2]; kernel_rfl) (by kernel_rfl) ?_
                  refine ls_nil ?_
                  refine then_normal ?_
                  exact ⟨(fun i => ([x54, x66, x67, x67, (D_6 0), (D_6 1), (D_6 2), (D_6 3), x73]).getD i undef), x73, by kernel_rfl, HA_23, H⟩
              · refine ls_skip (d := some 65) (by kernel_rfl) (by rw [hb_2]; kernel_rfl) ?_
                refine ls_skip (d := some 66) (by kernel_rfl) (by rw [hb_2]; kernel_rfl) ?_
                refine ls_skip (d := some 67) (by kernel_rfl) (by rw [hb_2]; kernel_rfl) ?_
                refine ls_skip (d := some 68) (by kernel_rfl) (by rw [hb_2]; kernel_rfl) ?_
                refine ls_skip (d := some 69) (by kernel_rfl) (by kernel_rfl) ?_
                refine ls_fr (b := ⟨([x0, undef, (D_1 0), x3, x4, x23, x25, x7, x45, x46, x54, x55, x0, x13, x14, undef, x16, x17, x18, x19, x20, x21, x22, x23, x24, x25, x23, x27, x27, (D 0), (D 1), x31, x7, x0, x34, x35, (D_1 9), (D_1 10), x44, x23, x0, x7, x42, x43, x44, x45, x46, x53, x25, x0] ++ [x7, x51, x52, x53, x54, x55, x55, x46, x58, x58, (D_2 0), (D_2 1), (D_2 2), x63, x63, undef, undef, undef, undef, undef, (D_1 43), (D_1 44), (D_1 45), (D_1 46), (D_1 47), (D_1 48), (D_1 49), (D_1 50), (D_1 51), (D_1 52), (D_1 53), (D_1 54), (D_1 55), (D_1 56), (D_1 57), (D_1 58), (D_1 59), (D_1 60), (D_1 61), (D_1 62), undef]).toArray, []⟩) (by kernel_rfl) ?_
                refine ls_skip (d := some 70) (by kernel_rfl) (by kernel_rfl) ?_
                refine ls_skip (d := some 71) (by kernel_rfl) (by kernel_rfl) ?_
                refine ls_skip (d := some 72) (by kernel_rfl) (by kernel_rfl) ?_
                refine ls_skip (d := some 73) (by kernel_rfl) (by rw [hb_2]; kernel_rfl) ?_
                refine ls_pick_t (x := (.bool true)) (by kernel_rfl) (by rw [hb_2]; kernel_rfl) (by kernel_rfl) ?_
                refine ls_nil ?_
                refine then_normal ?_
                exact ⟨(fun i => ([undef, undef, undef, undef, undef, undef, undef, undef, undef]).getD i undef), (.bool true), by kernel_rfl, HA_14, H⟩
              · rintro _ w_15 ⟨D_3, x74, rfl, HA_15, H⟩
                refine ls_move (x := x74) (by kernel_rfl) (by kernel_rfl) ?_
                refine ls_orh [(), (), (), (), (), (), ()] (fun K a w => ∃ (D_4 : Nat → Value) (x82 : Value) (h_12 : Heap), a = ⟨([x0, undef, (D_1 0), x3, x4, x23, x25, x7, x45, x46, x54, x55, x0, x13, x14, undef, x16, x17, x18, x19, x20, x21, x22, x23, x24, x25, x23, x27, x27, (D 0), (D 1), x31, x7, x0, x34, x35, (D_1 9), (D_1 10), x44, x23, x0, x7, x42, x43, x44, x45, x46, x53, x25, x0] ++ [x7, x51, x52, x53, x54, x55, x55, x46, x58, x58, (D_2 0), (D_2 1), (D_2 2), x63, x63, (D_3 0), (D_3 1), (D_3 2), (D_3 3), (D_3 4), (D_3 5), (D_3 6), (D_3 7), (D_3 8), x74, x74, (D_4 0), (D_4 1), (D_4 2), (D_4 3), (D_4 4), (D_4 5), x82, (D_1 56), (D_1 57), (D_1 58), (D_1 59), (D_1 60), (D_1 61), (D_1 62), undef]).toArray, []⟩ ∧ At w0 w h_12 ∧ K x82 h_12) H (fun hb_1 H => ?_) (fun hb_1 H => ?_) ?_
                · refine ls_move (x := x23) (by rw [hb_1]; kernel_rfl) (by kernel_rfl) ?_
                  refine ls_d (d := some 77) (by kernel_rfl) (by rw [hb_1]; kernel_rfl) HA_15 (d_call (by kernel_rfl) (by kernel_rfl) H) (fun x77 h_16 w_20 H HA_20 => ?_)
                  refine ls_move (x := x25) (by rw [hb_1]; kernel_rfl) (by kernel_rfl) ?_
                  refine ls_d (d := some 79) (by kernel_rfl) (by rw [hb_1]; kernel_rfl) HA_20 (d_call (by kernel_rfl) (by kernel_rfl) H) (fun x79 h_17 w_21 H HA_21 => ?_)
                  refine ls_d (d := some 80) (by kernel_rfl) (by rw [hb_1]; kernel_rfl) HA_21 (d_call (by kernel_rfl) (by kernel_rfl) H) (fun x80 h_18 w_22 H HA_22 => ?_)
                  refine ls_fr (b := ⟨([x0, undef, (D_1 0), x3, x4, x23, x25, x7, x45, x46, x54, x55, x0, x13, x14, undef, x16, x17, x18, x19, x20, x21, x22, x23, x24, x25, x23, x27, x27, (D 0), (D 1), x31, x7, x0, x34, x35, (D_1 9), (D_1 10), x44, x23, x0, x7, x42, x43, x44, x45, x46, x53, x25, x0] ++ [x7, x51, x52, x53, x54, x55, x55, x46, x58, x58, (D_2 0), (D_2 1), (D_2 2), x63, x63, (D_3 0), (D_3 1), (D_3 2), (D_3 3), (D_3 4), (D_3 5), (D_3 6), (D_3 7), (D_3 8), x74, x74, x23, x77, x25, x79, x80, (D_1 54), (D_1 55), (D_1 56), (D_1 57), (D_1 58), (D_1 59), (D_1 60), (D_1 61), (D_1 62), undef]).toArray, []⟩) (by kernel_rfl) ?_
                  refine ls_p (d := some 81) (by kernel_rfl) (by rw [hb_1]; kernel_rfl) (p_not (by kernel_rfl) H) (fun x81 H => ?_)
                  refine ls_pick_f (y := x81) (by kernel_rfl) (by rw [hb_1]; kernel_rfl) (by kernel_rfl) ?_
                  refine ls_nil ?_
                  refine then_normal ?_
                  exact ⟨(fun i => ([x23, x77, x25, x79, x80, x81]).getD i undef), x81, h_18, by kernel_rfl, HA_22, H⟩
                · refine ls_skip (d := some 76) (by kernel_rfl) (by rw [hb_1]; kernel_rfl) ?_
                  refine ls_skip (d := some 77) (by kernel_rfl) (by rw [hb_1]; kernel_rfl) ?_
                  refine ls_skip (d := some 78) (by kernel_rfl) (by rw [hb_1]; kernel_rfl) ?_
                  refine ls_skip (d := some 79) (by kernel_rfl) (by rw [hb_1]; kernel_rfl) ?_
                  refine ls_skip (d := some 80) (by kernel_rfl) (by rw [hb_1]; kernel_rfl) ?_
                  refine ls_fr (b := ⟨([x0, undef, (D_1 0), x3, x4, x23, x25, x7, x45, x46, x54, x55, x0, x13, x14, undef, x16, x17, x18, x19, x20, x21, x22, x23, x24, x25, x23, x27, x27, (D 0), (D 1), x31, x7, x0, x34, x35, (D_1 9), (D_1 10), x44, x23, x0, x7, x42, x43, x44, x45, x46, x53, x25, x0] ++ [x7, x51, x52, x53, x54, x55, x55, x46, x58, x58, (D_2 0), (D_2 1), (D_2 2), x63, x63, (D_3 0), (D_3 1), (D_3 2), (D_3 3), (D_3 4), (D_3 5), (D_3 6), (D_3 7), (D_3 8), x74, x74, undef, undef, undef, undef, undef, (D_1 54), (D_1 55), (D_1 56), (D_1 57), (D_1 58), (D_1 59), (D_1 60), (D_1 61), (D_1 62), undef]).toArray, []⟩) (by kernel_rfl) ?_
                  refine ls_skip (d := some 81) (by kernel_rfl) (by rw [hb_1]; kernel_rfl) ?_
                  refine ls_pick_t (x := (.bool true)) (by kernel_rfl) (by rw [hb_1]; kernel_rfl) (by kernel_rfl) ?_
                  refine ls_nil ?_
                  refine then_normal ?_
                  exact ⟨(fun i => ([undef, undef, undef, undef, undef, undef]).getD i undef), (.bool true), h_11, by kernel_rfl, HA_15, H⟩
                · rintro _ w_16 ⟨D_4, x82, h_12, rfl, HA_16, H⟩
                  refine ls_move (x := x82) (by kernel_rfl) (by kernel_rfl) ?_
                  refine ls_orh [(), (), (), (), (), ()] (fun K a w => ∃ (D_5 : Nat → Value) (x89 : Value) (h_13 : Heap), a = ⟨([x0, undef, (D_1 0), x3, x4, x23, x25, x7, x45, x46, x54, x55, x0, x13, x14, undef, x16, x17, x18, x19, x20, x21, x22, x23, x24, x25, x23, x27, x27, (D 0), (D 1), x31, x7, x0, x34, x35, (D_1 9), (D_1 10), x44, x23, x0, x7, x42, x43, x44, x45, x46, x53, x25, x0] ++ [x7, x51, x52, x53, x54, x55, x55, x46, x58, x58, (D_2 0), (D_2 1), (D_2 2), x63, x63, (D_3 0), (D_3 1), (D_3 2), (D_3 3), (D_3 4), (D_3 5), (D_3 6), (D_3 7), (D_3 8), x74, x74, (D_4 0), (D_4 1), (D_4 2), (D_4 3), (D_4 4), (D_4 5), x82, x82, (D_5 0), (D_5 1), (D_5 2), (D_5 3), (D_5 4), x89, undef]).toArray, []⟩ ∧ At w0 w h_13 ∧ K x89 h_13) H (fun hb H => ?_) (fun hb H => ?_) ?_
                  · refine ls_move (x := x23) (by rw [hb]; kernel_rfl) (by kernel_rfl) ?_
                    refine ls_d (d := some 85) (by kernel_rfl) (by rw [hb]; kernel_rfl) HA_16 (d_call (by kernel_rfl) (by kernel_rfl) H) (fun x85 h_14 w_18 H HA_18 => ?_)
                    refine ls_move (x := x25) (by rw [hb]; kernel_rfl) (by kernel_rfl) ?_
                    refine ls_d (d := some 87) (by kernel_rfl) (by rw [hb]; kernel_rfl) HA_18 (d_call (by kernel_rfl) (by kernel_rfl) H) (fun x87 h_15 w_19 H HA_19 => ?_)
                    refine ls_p (d := some 88) (by kernel_rfl) (by rw [hb]; kernel_rfl) (p_sNe (by kernel_rfl) (by kernel_rfl) H) (fun x88 H => ?_)
                    refine ls_fr (b := ⟨([x0, undef, (D_1 0), x3, x4, x23, x25, x7, x45, x46, x54, x55, x0, x13, x14, undef, x16, x17, x18, x19, x20, x21, x22, x23, x24, x25, x23, x27, x27, (D 0), (D 1), x31, x7, x0, x34, x35, (D_1 9), (D_1 10), x44, x23, x0, x7, x42, x43, x44, x45, x46, x53, x25, x0] ++ [x7, x51, x52, x53, x54, x55, x55, x46, x58, x58, (D_2 0), (D_2 1), (D_2 2), x63, x63, (D_3 0), (D_3 1), (D_3 2), (D_3 3), (D_3 4), (D_3 5), (D_3 6), (D_3 7), (D_3 8), x74, x74, (D_4 0), (D_4 1), (D_4 2), (D_4 3), (D_4 4), (D_4 5), x82, x82, x23, x85, x25, x87, x88, (D_1 62), undef]).toArray, []⟩) (by kernel_rfl) ?_
                    refine ls_pick_f (y := x88) (by kernel_rfl) (by rw [hb]; kernel_rfl) (by kernel_rfl) ?_
                    refine ls_nil ?_
                    refine then_normal ?_
                    exact ⟨(fun i => ([x23, x85, x25, x87, x88]).getD i undef), x88, h_15, by kernel_rfl, HA_19, H⟩
                  · refine ls_skip (d := some 84) (by kernel_rfl) (by rw [hb]; kernel_rfl) ?_
                    refine ls_skip (d := some 85) (by kernel_rfl) (by rw [hb]; kernel_rfl) ?_
                    refine ls_skip (d := some 86) (by kernel_rfl) (by rw [hb]; kernel_rfl) ?_
                    refine ls_skip (d := some 87) (by kernel_rfl) (by rw [hb]; kernel_rfl) ?_
                    refine ls_skip (d := some 88) (by kernel_rfl) (by rw [hb]; kernel_rfl) ?_
                    refine ls_fr (b := ⟨([x0, undef, (D_1 0), x3, x4, x23, x25, x7, x45, x46, x54, x55, x0, x13, x14, undef, x16, x17, x18, x19, x20, x21, x22, x23, x24, x25, x23, x27, x27, (D 0), (D 1), x31, x7, x0, x34, x35, (D_1 9), (D_1 10), x44, x23, x0, x7, x42, x43, x44, x45, x46, x53, x25, x0] ++ [x7, x51, x52, x53, x54, x55, x55, x46, x58, x58, (D_2 0), (D_2 1), (D_2 2), x63, x63, (D_3 0), (D_3 1), (D_3 2), (D_3 3), (D_3 4), (D_3 5), (D_3 6), (D_3 7), (D_3 8), x74, x74, (D_4 0), (D_4 1), (D_4 2), (D_4 3), (D_4 4), (D_4 5), x82, x82, undef, undef, undef, undef, undef, (D_1 62), undef]).toArray, []⟩) (by kernel_rfl) ?_
                    refine ls_pick_t (x := (.bool true)) (by kernel_rfl) (by rw [hb]; kernel_rfl) (by kernel_rfl) ?_
                    refine ls_nil ?_
                    refine then_normal ?_
                    exact ⟨(fun i => ([undef, undef, undef, undef, undef]).getD i undef), (.bool true), h_12, by kernel_rfl, HA_16, H⟩
                  · rintro _ w_17 ⟨D_5, x89, h_13, rfl, HA_17, H⟩
                    refine ls_nil ?_
                    refine then_normal ?_
                    refine fr_eq (b := ⟨([x0, undef, (D_1 0), x3, x4, x23, x25, x7, x45, x46, x54, x55, x0, x13, x14, undef, x16, x17, x18, x19, x20, x21, x22, x23, x24, x25, x23, x27, x27, (D 0), (D 1), x31, x7, x0, x34, x35, (D_1 9), (D_1 10), x44, x23, x0, x7, x42, x43, x44, x45, x46, x53, x25, x0] ++ [x7, x51, x52, x53, x54, x55, x55, x46, x58, x58, (D_2 0), (D_2 1), (D_2 2), x63, x63, (D_3 0), (D_3 1), (D_3 2), (D_3 3), (D_3 4), (D_3 5), (D_3 6), (D_3 7), (D_3 8), x74, x74, (D_4 0), (D_4 1), (D_4 2), (D_4 3), (D_4 4), (D_4 5), x82, x82, (D_5 0), (D_5 1), (D_5 2), (D_5 3), (D_5 4), x89, undef]).toArray, []⟩) (by kernel_rfl) ?_
                    refine wp_if rfl H (fun H => ?_) (fun H => ?_)
                    · refine wp_seq ?_
                      refine lwp_list ?_
                      refine ls_assign (x := (.bool false)) (by kernel_rfl) (by kernel_rfl) ?_
                      refine ls_nil ?_
                      refine then_normal ?_
                      refine fr_eq (b := ⟨([x0, undef, (.bool false), x3, x4, x23, x25, x7, x45, x46, x54, x55, x0, x13, x14, undef, x16, x17, x18, x19, x20, x21, x22, x23, x24, x25, x23, x27, x27, (D 0), (D 1), x31, x7, x0, x34, x35, (D_1 9), (D_1 10), x44, x23, x0, x7, x42, x43, x44, x45, x46, x53, x25, x0] ++ [x7, x51, x52, x53, x54, x55, x55, x46, x58, x58, (D_2 0), (D_2 1), (D_2 2), x63, x63, (D_3 0), (D_3 1), (D_3 2), (D_3 3), (D_3 4), (D_3 5), (D_3 6), (D_3 7), (D_3 8), x74, x74, (D_4 0), (D_4 1), (D_4 2), (D_4 3), (D_4 4), (D_4 5), x82, x82, (D_5 0), (D_5 1), (D_5 2), (D_5 3), (D_5 4), x89, undef]).toArray, []⟩) (by kernel_rfl) ?_
                      refine wp_ret ?_
                      refine block_ret ?_
                      refine then_ret ?_
                      refine then_ret ?_
                      refine block_ret ?_
                      refine then_ret ?_
                      exact end1 (Try.results6) (by kernel_rfl) (by kernel_rfl) HA_17 H _ (.inr rfl)
                    · refine wp_skip ?_
                      refine block_normal ?_
                      refine then_normal ?_
                      refine fr_eq (b := ⟨([x0, undef, (D_1 0), x3, x4, x23, x25, x7, x45, x46, x54, x55, x0, x13, x14, undef, x16, x17, x18, x19, x20, x21, x22, x23, x24, x25, x23, x27, x27, (D 0), (D 1), x31, x7, x0, x34, x35, (D_1 9), (D_1 10), x44, x23, x0, x7, x42, x43, x44, x45, x46, x53, x25, x0] ++ [x7, x51, x52, x53, x54, x55, x55, x46, x58, x58, (D_2 0), (D_2 1), (D_2 2), x63, x63, (D_3 0), (D_3 1), (D_3 2), (D_3 3), (D_3 4), (D_3 5), (D_3 6), (D_3 7), (D_3 8), x74, x74, (D_4 0), (D_4 1), (D_4 2), (D_4 3), (D_4 4), (D_4 5), x82, x82, (D_5 0), (D_5 1), (D_5 2), (D_5 3), (D_5 4), x89, undef]).toArray, []⟩) (by kernel_rfl) ?_
                      refine lwp_list ?_
                      refine ls_move (x := x7) (by kernel_rfl) (by kernel_rfl) ?_
                      refine ls_p (d := some 37) (by kernel_rfl) (by kernel_rfl) (p_add (by kernel_rfl) (by kernel_rfl) H) (fun x37 H => ?_)
                      refine ls_assign (x := x37) (by kernel_rfl) (by kernel_rfl) ?_
                      refine ls_nil ?_
                      exact ⟨⟨(fun i => ([(D_1 0), x45, x46, x54, x55, x7, x0, x34, x35, x7, x37, x44, x23, x0, x7, x42, x43, x44, x45, x46, x53, x25, x0, x7, x51, x52, x53, x54, x55, x55, x46, x58, x58, (D_2 0), (D_2 1), (D_2 2), x63, x63, (D_3 0), (D_3 1), (D_3 2), (D_3 3), (D_3 4), (D_3 5), (D_3 6), (D_3 7), (D_3 8), x74, x74, (D_4 0)] ++ [(D_4 1), (D_4 2), (D_4 3), (D_4 4), (D_4 5), x82, x82, (D_5 0), (D_5 1), (D_5 2), (D_5 3), (D_5 4), x89]).getD i undef), x37, h_13, by kernel_rfl, HA_17, H.1⟩, loop_lt HA_17.heap HA_11.heap (by kernel_rfl) (by kernel_rfl) H.2⟩
          · refine wp_exit ?_
            refine then_exit ?_
            refine then_exit ?_
            refine block_exit ?_
            refine then_normal ?_
            refine fr_eq (b := ⟨([x0, undef, (D_1 0), x3, x4, x23, x25, x7, (D_1 1), (D_1 2), (D_1 3), (D_1 4), x0, x13, x14, undef, x16, x17, x18, x19, x20, x21, x22, x23, x24, x25, x23, x27, x27, (D 0), (D 1), x31, x7, x0, x34, x35, (D_1 9), (D_1 10), (D_1 11), (D_1 12), (D_1 13), (D_1 14), (D_1 15), (D_1 16), (D_1 17), (D_1 18), (D_1 19), (D_1 20), (D_1 21), (D_1 22)] ++ [(D_1 23), (D_1 24), (D_1 25), (D_1 26), (D_1 27), (D_1 28), (D_1 29), (D_1 30), (D_1 31), (D_1 32), (D_1 33), (D_1 34), (D_1 35), (D_1 36), (D_1 37), (D_1 38), (D_1 39), (D_1 40), (D_1 41), (D_1 42), (D_1 43), (D_1 44), (D_1 45), (D_1 46), (D_1 47), (D_1 48), (D_1 49), (D_1 50), (D_1 51), (D_1 52), (D_1 53), (D_1 54), (D_1 55), (D_1 56), (D_1 57), (D_1 58), (D_1 59), (D_1 60), (D_1 61), (D_1 62), undef]).toArray, []⟩) (by kernel_rfl) ?_
            refine wp_seq ?_
            refine lwp_list ?_
            refine ls_d (d := some 90) (by kernel_rfl) (by kernel_rfl) HA_11 (d_call (by kernel_rfl) (by kernel_rfl) H) (fun x90 h_19 w_24 H HA_24 => ?_)
            refine ls_assign (x := x90) (by kernel_rfl) (by kernel_rfl) ?_
            refine ls_nil ?_
            refine then_normal ?_
            refine fr_eq (b := ⟨([x0, undef, x90, x3, x4, x23, x25, x7, (D_1 1), (D_1 2), (D_1 3), (D_1 4), x0, x13, x14, undef, x16, x17, x18, x19, x20, x21, x22, x23, x24, x25, x23, x27, x27, (D 0), (D 1), x31, x7, x0, x34, x35, (D_1 9), (D_1 10), (D_1 11), (D_1 12), (D_1 13), (D_1 14), (D_1 15), (D_1 16), (D_1 17), (D_1 18), (D_1 19), (D_1 20), (D_1 21), (D_1 22)] ++ [(D_1 23), (D_1 24), (D_1 25), (D_1 26), (D_1 27), (D_1 28), (D_1 29), (D_1 30), (D_1 31), (D_1 32), (D_1 33), (D_1 34), (D_1 35), (D_1 36), (D_1 37), (D_1 38), (D_1 39), (D_1 40), (D_1 41), (D_1 42), (D_1 43), (D_1 44), (D_1 45), (D_1 46), (D_1 47), (D_1 48), (D_1 49), (D_1 50), (D_1 51), (D_1 52), (D_1 53), (D_1 54), (D_1 55), (D_1 56), (D_1 57), (D_1 58), (D_1 59), (D_1 60), (D_1 61), (D_1 62), x90]).toArray, []⟩) (by kernel_rfl) ?_
            refine wp_ret ?_
            exact end1 (Try.results6) (by kernel_rfl) (by kernel_rfl) HA_24 H _ (.inr rfl)

end Go.Proofs.Ytlcklnbgknhhkaa
