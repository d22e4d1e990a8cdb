/- The shallow reading of one function, and that the function does it. Written by a program. -/
import Derived.Test.YtlcklnbgknhhkaaFnC
set_option linter.unusedVariables false
namespace Go.Proofs.Ytlcklnbgknhhkaa
open Go Go.HW

def betonylaw18_LdiscSignals_j4 (R : Value → Heap → Prop) (x29 x48 x66 x17 : Value) (h_13 : Heap) : Prop :=
  sAdd .i64 x48 (.int .i64 1) fun x97 =>
  sEq x66 x97 fun x98 =>
  sAndH x98 h_13 (fun k_4 =>
  ldisc_Disc_Line_c x29 h_13 fun x101 h_17 => 
  sLen x101 fun x102 =>
  sEq x102 x17 fun x104 =>
  k_4 x104 h_17) fun x105 h_14 =>
  sAndH x105 h_14 (fun k_3 =>
  betonylaw18_awake_c  h_14 fun x107 h_16 => 
  k_3 x107 h_16) fun x108 h_15 =>
  R x108 h_15
def betonylaw18_LdiscSignals_j3 (R : Value → Heap → Prop) (x0 x2 x3 x29 x48 x53 : Value) (h_8 : Heap) : Prop :=
  ldisc_Disc_Input_c x29 x53 h_8 fun x64 h_9 => 
  sTup x64 0 fun x65 =>
  sTup x64 1 fun x66 =>
  sIf x3 (ldisc_Disc_Line_c x29 h_9 fun x69 h_10 => 
  sEq x66 (.int .i64 0) fun x71 =>
  sAnd x71 (fun k_2 =>
  sLen x69 fun x74 =>
  sLen x0 fun x76 =>
  sAdd .i64 x76 (.int .i64 1) fun x77 =>
  sEq x74 x77 fun x78 =>
  k_2 x78) fun x79 =>
  sAnd x79 (fun k_1 =>
  sLen x0 fun x83 =>
  sIxS x69 x83 1 fun x84 =>
  sLd h_10 x84 fun x85 =>
  sEq x85 x53 fun x87 =>
  k_1 x87) fun x88 =>
  sAndH x88 h_10 (fun k =>
  betonylaw18_awake_c  h_10 fun x90 h_12 => 
  k x90 h_12) fun x91 h_11 =>
  R x91 h_11) (sIf x2 (sLen x0 fun x94 =>
  betonylaw18_LdiscSignals_j4 R x29 x48 x66 x94 h_9) (betonylaw18_LdiscSignals_j4 R x29 x48 x66 (.int .i64 0) h_9))
def betonylaw18_LdiscSignals_l2 (R : Value → Heap → Prop) (x0 x1 x2 x3 x9 x29 : Value) (next : Value → Heap → Prop) (x11 : Value) (h_6 : Heap) : Prop :=
  sLen x0 fun x34 =>
  sLt x11 x34 fun x35 =>
  sIf x35 (sIxS x0 x11 1 fun x41 =>
  sLd h_6 x41 fun x42 =>
  sRem .u8 x42 (.int .u8 26) fun x43 =>
  sAdd .u8 (.int .u8 97) x43 fun x44 =>
  ldisc_Disc_Input_c x29 x44 h_6 fun x45 h_7 => 
  sAdd .i64 x11 (.int .i64 1) fun x37 =>
  next x37 h_7) (sConv .i64 x1 fun x47 =>
  sRem .i64 x47 (.int .i64 3) fun x48 =>
  sOff x9 3 fun x50 =>
  sIxA x50 x48 12 1 fun x51 =>
  sLd h_6 x51 fun x52 =>
  sConv .u8 x52 fun x53 =>
  sIf x3 (sOff x9 3 fun x56 =>
  sIxA x56 (.int .i64 9) 12 1 fun x57 =>
  sLd h_6 x57 fun x58 =>
  sConv .u8 x58 fun x59 =>
  ldisc_Disc_Input_c x29 x59 h_6 fun x60 h_18 => 
  betonylaw18_LdiscSignals_j3 R x0 x2 x3 x29 x48 x53 h_18) (betonylaw18_LdiscSignals_j3 R x0 x2 x3 x29 x48 x53 h_6))
def betonylaw18_LdiscSignals_j1 (R : Value → Heap → Prop) (x0 x1 x2 x3 x9 : Value) (h_4 : Heap) : Prop :=
  sLdN h_4 x9 17 fun x28 =>
  ldisc_New_c x28 h_4 fun x29 h_5 => 
  sEqlNil x29 fun x31 =>
  sIf x31 (R (.bool false) h_5) (sLoop (S := Value) (fun nxt s h => betonylaw18_LdiscSignals_l2 R x0 x1 x2 x3 x9 x29 (fun x11' h => nxt x11' h) s h) (.int .i64 0) h_5)
def betonylaw18_LdiscSignals_S (x0 x1 x2 x3 : Value) (h : Heap) (R : Value → Heap → Prop) : Prop :=
  sLen x0 fun x19 =>
  sGt x19 (.int .i64 40) fun x20 =>
  sIf x20 (betonylaw18_awake_c  h fun x21 h => 
  R x21 h) (betonyref17_Plain_c  h fun x22 h_1 => 
  sNew h_1 #[.int .i64 0, .int .i64 0, .int .i64 0, .int .i64 0, .int .i64 0, .int .i64 0, .int .i64 0, .int .i64 0, .int .i64 0, .int .i64 0, .int .i64 0, .int .i64 0, .int .i64 0, .int .i64 0, .int .i64 0, .int .i64 0, .int .i64 0] 28 fun x9 h_2 => 
  sStN h_2 x9 x22 17 fun h_3 => 
  sIf x2 (sOff x9 2 fun x24 =>
  sLd h_3 x24 fun x25 =>
  sBits .or .i64 x25 (.int .i64 128) fun x26 =>
  sOff x9 2 fun x27 =>
  sSt h_3 x27 x26 fun h_19 => 
  betonylaw18_LdiscSignals_j1 R x0 x1 x2 x3 x9 h_19) (betonylaw18_LdiscSignals_j1 R x0 x1 x2 x3 x9 h_3))
set_option maxRecDepth 100000 in
theorem betonylaw18_LdiscSignals_runs {x0 x1 x2 x3 : Value} {h : Heap} {R : Value → Heap → Prop} (H : betonylaw18_LdiscSignals_S x0 x1 x2 x3 h R) : betonylaw18_LdiscSignals_c x0 x1 x2 x3 h R := by
  unfold betonylaw18_LdiscSignals_S at H
  refine runs_of (b := ⟨([x0, x1, x2, x3, undef, undef, undef, undef, undef, undef, undef, undef, undef, undef, undef, undef, undef, undef, undef, undef, undef, undef, undef, undef, undef, undef, undef, undef, undef, undef, undef, undef, undef, undef, undef, undef, undef, undef, undef, undef, undef, undef, undef, undef, undef, undef, undef, undef, undef, undef] ++ [undef, undef, undef, undef, undef, undef, undef, undef, undef, undef, undef, undef, undef, undef, undef, undef, undef, undef, undef, undef, undef, undef, undef, undef, undef, undef, undef, undef, undef, undef, undef, undef, undef, undef, undef, undef, undef, undef, undef, undef, undef, undef, undef, undef, undef, undef, undef, undef, undef, undef] ++ [undef, undef, undef, undef, undef, undef, undef, undef, undef]).toArray, []⟩) Try.call5 Try.func5 rfl (by kernel_rfl) (fun w0 HA => ?_)
  refine wp_seq ?_
  refine lwp_list ?_
  refine ls_assign (x := (.bool false)) (by kernel_rfl) (by kernel_rfl) ?_
  refine ls_nil ?_
  refine then_normal ?_
  refine fr_eq (b := ⟨([x0, x1, x2, x3, undef, undef, undef, undef, (.bool false), undef, undef, undef, undef, undef, undef, undef, undef, undef, undef, undef, undef, undef, undef, undef, undef, undef, undef, undef, undef, undef, undef, undef, undef, undef, undef, undef, undef, undef, undef, undef, undef, undef, undef, undef, undef, undef, undef, undef, undef, undef] ++ [undef, undef, undef, undef, undef, undef, undef, undef, undef, undef, undef, undef, undef, undef, undef, undef, undef, undef, undef, undef, undef, undef, undef, undef, undef, undef, undef, undef, undef, undef, undef, undef, undef, undef, undef, undef, undef, undef, undef, undef, undef, undef, undef, undef, undef, undef, undef, undef, undef, undef] ++ [undef, undef, undef, undef, undef, undef, undef, undef, undef]).toArray, []⟩) (by kernel_rfl) ?_
  refine wp_seq ?_
  refine wp_seq ?_
  refine lwp_list ?_
  refine ls_move (x := x0) (by kernel_rfl) (by kernel_rfl) ?_
  refine ls_p (d := some 19) (by kernel_rfl) (by kernel_rfl) (p_len Try.underlying30 (by kernel_rfl) H) (fun x19 H => ?_)
  refine ls_p (d := some 20) (by kernel_rfl) (by kernel_rfl) (p_sGt (by kernel_rfl) (by kernel_rfl) H) (fun x20 H => ?_)
  refine ls_nil ?_
  refine then_normal ?_
  refine fr_eq (b := ⟨([x0, x1, x2, x3, undef, undef, undef, undef, (.bool false), undef, undef, undef, undef, undef, undef, undef, undef, undef, x0, x19, x20, undef, undef, undef, undef, undef, undef, undef, undef, undef, undef, undef, undef, undef, undef, undef, undef, undef, undef, undef, undef, undef, undef, undef, undef, undef, undef, undef, undef, undef] ++ [undef, undef, undef, undef, undef, undef, undef, undef, undef, undef, undef, undef, undef, undef, undef, undef, undef, undef, undef, undef, undef, undef, undef, undef, undef, undef, undef, undef, undef, undef, undef, undef, undef, undef, undef, undef, undef, undef, undef, undef, undef, undef, undef, undef, undef, undef, undef, undef, undef, undef] ++ [undef, undef, undef, undef, undef, undef, undef, undef, undef]).toArray, []⟩) (by kernel_rfl) ?_
  refine wp_if rfl H (fun H => ?_) (fun H => ?_)
  · refine wp_seq ?_
    refine lwp_list ?_
    refine ls_d (d := some 21) (by kernel_rfl) (by kernel_rfl) HA (d_call (by kernel_rfl) (by kernel_rfl) H) (fun x21 h w H HA => ?_)
    refine ls_assign (x := x21) (by kernel_rfl) (by kernel_rfl) ?_
    refine ls_nil ?_
    refine then_normal ?_
    refine fr_eq (b := ⟨([x0, x1, x2, x3, undef, undef, undef, undef, x21, undef, undef, undef, undef, undef, undef, undef, undef, undef, x0, x19, x20, x21, undef, undef, undef, undef, undef, undef, undef, undef, undef, undef, undef, undef, undef, undef, undef, undef, undef, undef, undef, undef, undef, undef, undef, undef, undef, undef, undef, undef] ++ [undef, undef, undef, undef, undef, undef, undef, undef, undef, undef, undef, undef, undef, undef, undef, undef, undef, undef, undef, undef, undef, undef, undef, undef, undef, undef, undef, undef, undef, undef, undef, undef, undef, undef, undef, undef, undef, undef, undef, undef, undef, undef, undef, undef, undef, undef, undef, undef, undef, undef] ++ [undef, undef, undef, undef, undef, undef, undef, undef, undef]).toArray, []⟩) (by kernel_rfl) ?_
    refine wp_ret ?_
    refine then_ret ?_
    exact end1 (Try.results5) (by kernel_rfl) (by kernel_rfl) HA H _ (.inr rfl)
  · refine wp_skip ?_
    refine then_normal ?_
    refine fr_eq (b := ⟨([x0, x1, x2, x3, undef, undef, undef, undef, (.bool false), undef, undef, undef, undef, undef, undef, undef, undef, undef, x0, x19, x20, undef, undef, undef, undef, undef, undef, undef, undef, undef, undef, undef, undef, undef, undef, undef, undef, undef, undef, undef, undef, undef, undef, undef, undef, undef, undef, undef, undef, undef] ++ [undef, undef, undef, undef, undef, undef, undef, undef, undef, undef, undef, undef, undef, undef, undef, undef, undef, undef, undef, undef, undef, undef, undef, undef, undef, undef, undef, undef, undef, undef, undef, undef, undef, undef, undef, undef, undef, undef, undef, undef, undef, undef, undef, undef, undef, undef, undef, undef, undef, undef] ++ [undef, undef, undef, undef, undef, undef, undef, undef, undef]).toArray, []⟩) (by kernel_rfl) ?_
    refine wp_seq ?_
    refine lwp_list ?_
    refine ls_d (d := some 22) (by kernel_rfl) (by kernel_rfl) HA (d_call (by kernel_rfl) (by kernel_rfl) H) (fun x22 h_1 w_1 H HA_1 => ?_)
    refine ls_d (d := some 9) (by kernel_rfl) (by kernel_rfl) HA_1 (d_alloc Try.zeroValue28 H) (fun x9 h_2 w_2 H HA_2 => ?_)
    refine ls_d (d := none) (by kernel_rfl) (by kernel_rfl) HA_2 (d_stn Try.sizeOf28 (by kernel_rfl) (by kernel_rfl) H) (fun _ h_3 w_3 H HA_3 => ?_)
    refine ls_nil ?_
    refine then_normal ?_
    refine fr_eq (b := ⟨([x0, x1, x2, x3, undef, undef, undef, undef, (.bool false), x9, undef, undef, undef, undef, undef, undef, undef, undef, x0, x19, x20, undef, x22, undef, undef, undef, undef, undef, undef, undef, undef, undef, undef, undef, undef, undef, undef, undef, undef, undef, undef, undef, undef, undef, undef, undef, undef, undef, undef, undef] ++ [undef, undef, undef, undef, undef, undef, undef, undef, undef, undef, undef, undef, undef, undef, undef, undef, undef, undef, undef, undef, undef, undef, undef, undef, undef, undef, undef, undef, undef, undef, undef, undef, undef, undef, undef, undef, undef, undef, undef, undef, undef, undef, undef, undef, undef, undef, undef, undef, undef, undef] ++ [undef, undef, undef, undef, undef, undef, undef, undef, undef]).toArray, []⟩) (by kernel_rfl) ?_
    refine wp_seq ?_
    refine wp_seq ?_
    refine lwp_list ?_
    refine ls_move (x := x2) (by kernel_rfl) (by kernel_rfl) ?_
    refine ls_nil ?_
    refine then_normal ?_
    refine fr_eq (b := ⟨([x0, x1, x2, x3, undef, undef, undef, undef, (.bool false), x9, undef, undef, undef, undef, undef, undef, undef, undef, x0, x19, x20, undef, x22, x2, undef, undef, undef, undef, undef, undef, undef, undef, undef, undef, undef, undef, undef, undef, undef, undef, undef, undef, undef, undef, undef, undef, undef, undef, undef, undef] ++ [undef, undef, undef, undef, undef, undef, undef, undef, undef, undef, undef, undef, undef, undef, undef, undef, undef, undef, undef, undef, undef, undef, undef, undef, undef, undef, undef, undef, undef, undef, undef, undef, undef, undef, undef, undef, undef, undef, undef, undef, undef, undef, undef, undef, undef, undef, undef, undef, undef, undef] ++ [undef, undef, undef, undef, undef, undef, undef, undef, undef]).toArray, []⟩) (by kernel_rfl) ?_
    refine wp_join (fun a w => ∃ (D : Nat → Value) (h_4 : Heap), a = ⟨([x0, x1, x2, x3, undef, undef, undef, undef, (.bool false), x9, undef, undef, undef, undef, undef, undef, undef, undef, x0, x19, x20, undef, x22, x2, (D 0), (D 1), (D 2), (D 3), undef, undef, undef, undef, undef, undef, undef, undef, undef, undef, undef, undef, undef, undef, undef, undef, undef, undef, undef, undef, undef, undef] ++ [undef, undef, undef, undef, undef, undef, undef, undef, undef, undef, undef, undef, undef, undef, undef, undef, undef, undef, undef, undef, undef, undef, undef, undef, undef, undef, undef, undef, undef, undef, undef, undef, undef, undef, undef, undef, undef, undef, undef, undef, undef, undef, undef, undef, undef, undef, undef, undef, undef, undef] ++ [undef, undef, undef, undef, undef, undef, undef, undef, undef]).toArray, []⟩ ∧ At w0 w h_4 ∧ betonylaw18_LdiscSignals_j1 R x0 x1 x2 x3 x9 h_4) ?_ ?_
    · refine wp_if rfl H (fun H => ?_) (fun H => ?_)
      · refine lwp_list ?_
        refine ls_p (d := some 24) (by kernel_rfl) (by kernel_rfl) (p_off Try.underlying28 rfl (fun w => ⟨_, Try.sizeOf3 w⟩) rfl (by kernel_rfl) H) (fun x24 H => ?_)
        refine ls_y (d := some 25) (by kernel_rfl) (by kernel_rfl) HA_3 (y_ld Try.isAgg3 (by kernel_rfl) H) (fun x25 H => ?_)
        refine ls_p (d := some 26) (by kernel_rfl) (by kernel_rfl) (p_bits (by decide) (by kernel_rfl) (by kernel_rfl) H) (fun x26 H => ?_)
        refine ls_p (d := some 27) (by kernel_rfl) (by kernel_rfl) (p_off Try.underlying28 rfl (fun w => ⟨_, Try.sizeOf3 w⟩) rfl (by kernel_rfl) H) (fun x27 H => ?_)
        refine ls_d (d := none) (by kernel_rfl) (by kernel_rfl) HA_3 (d_st Try.sizeOf3 (by kernel_rfl) (by kernel_rfl) H) (fun _ h_19 w_21 H HA_21 => ?_)
        refine ls_nil ?_
        exact ⟨(fun i => ([x24, x25, x26, x27]).getD i undef), h_19, by kernel_rfl, HA_21, H⟩
      · refine wp_skip ?_
        exact ⟨(fun i => ([undef, undef, undef, undef]).getD i undef), h_3, by kernel_rfl, HA_3, H⟩
    · rintro _ w_4 ⟨D, h_4, rfl, HA_4, H⟩
      unfold betonylaw18_LdiscSignals_j1 at H
      refine then_normal ?_
      refine fr_eq (b := ⟨([x0, x1, x2, x3, undef, undef, undef, undef, (.bool false), x9, undef, undef, undef, undef, undef, undef, undef, undef, x0, x19, x20, undef, x22, x2, (D 0), (D 1), (D 2), (D 3), undef, undef, undef, undef, undef, undef, undef, undef, undef, undef, undef, undef, undef, undef, undef, undef, undef, undef, undef, undef, undef, undef] ++ [undef, undef, undef, undef, undef, undef, undef, undef, undef, undef, undef, undef, undef, undef, undef, undef, undef, undef, undef, undef, undef, undef, undef, undef, undef, undef, undef, undef, undef, undef, undef, undef, undef, undef, undef, undef, undef, undef, undef, undef, undef, undef, undef, undef, undef, undef, undef, undef, undef, undef] ++ [undef, undef, undef, undef, undef, undef, undef, undef, undef]).toArray, []⟩) (by kernel_rfl) ?_
      refine wp_seq ?_
      refine lwp_list ?_
      refine ls_y (d := some 28) (by kernel_rfl) (by kernel_rfl) HA_4 (y_ldn Try.isAgg28 Try.sizeOf28 (by kernel_rfl) H) (fun x28 H => ?_)
      refine ls_d (d := some 29) (by kernel_rfl) (by kernel_rfl) HA_4 (d_call (by kernel_rfl) (by kernel_rfl) H) (fun x29 h_5 w_5 H HA_5 => ?_)
      refine ls_assign (x := x29) (by kernel_rfl) (by kernel_rfl) ?_
      refine ls_nil ?_
      refine then_normal ?_
      refine fr_eq (b := ⟨([x0, x1, x2, x3, undef, undef, undef, undef, (.bool false), x9, x29, undef, undef, undef, undef, undef, undef, undef, x0, x19, x20, undef, x22, x2, (D 0), (D 1), (D 2), (D 3), x28, x29, undef, undef, undef, undef, undef, undef, undef, undef, undef, undef, undef, undef, undef, undef, undef, undef, undef, undef, undef, undef] ++ [undef, undef, undef, undef, undef, undef, undef, undef, undef, undef, undef, undef, undef, undef, undef, undef, undef, undef, undef, undef, undef, undef, undef, undef, undef, undef, undef, undef, undef, undef, undef, undef, undef, undef, undef, undef, undef, undef, undef, undef, undef, undef, undef, undef, undef, undef, undef, undef, undef, undef] ++ [undef, undef, undef, undef, undef, undef, undef, undef, undef]).toArray, []⟩) (by kernel_rfl) ?_
      refine wp_seq ?_
      refine wp_seq ?_
      refine lwp_list ?_
      refine ls_move (x := x29) (by kernel_rfl) (by kernel_rfl) ?_
      refine ls_p (d := some 31) (by kernel_rfl) (by kernel_rfl) (p_eqlNil Try.underlying24 (by kernel_rfl) (by kernel_rfl) H) (fun x31 H => ?_)
      refine ls_nil ?_
      refine then_normal ?_
      refine fr_eq (b := ⟨([x0, x1, x2, x3, undef, undef, undef, undef, (.bool false), x9, x29, undef, undef, undef, undef, undef, undef, undef, x0, x19, x20, undef, x22, x2, (D 0), (D 1), (D 2), (D 3), x28, x29, x29, x31, undef, undef, undef, undef, undef, undef, undef, undef, undef, undef, undef, undef, undef, undef, undef, undef, undef, undef] ++ [undef, undef, undef, undef, undef, undef, undef, undef, undef, undef, undef, undef, undef, undef, undef, undef, undef, undef, undef, undef, undef, undef, undef, undef, undef, undef, undef, undef, undef, undef, undef, undef, undef, undef, undef, undef, undef, undef, undef, undef, undef, undef, undef, undef, undef, undef, undef, undef, undef, undef] ++ [undef, undef, undef, undef, undef, undef, undef, undef, undef]).toArray, []⟩) (by kernel_rfl) ?_
      refine wp_if rfl H (fun H => ?_) (fun H => ?_)
      · refine wp_seq ?_
        refine lwp_list ?_
        refine ls_assign (x := (.bool false)) (by kernel_rfl) (by kernel_rfl) ?_
        refine ls_nil ?_
        refine then_normal ?_
        refine fr_eq (b := ⟨([x0, x1, x2, x3, undef, undef, undef, undef, (.bool false), x9, x29, undef, undef, undef, undef, undef, undef, undef, x0, x19, x20, undef, x22, x2, (D 0), (D 1), (D 2), (D 3), x28, x29, x29, x31, undef, undef, undef, undef, undef, undef, undef, undef, undef, undef, undef, undef, undef, undef, undef, undef, undef, undef] ++ [undef, undef, undef, undef, undef, undef, undef, undef, undef, undef, undef, undef, undef, undef, undef, undef, undef, undef, undef, undef, undef, undef, undef, undef, undef, undef, undef, undef, undef, undef, undef, undef, undef, undef, undef, undef, undef, undef, undef, undef, undef, undef, undef, undef, undef, undef, undef, undef, undef, undef] ++ [undef, undef, undef, undef, undef, undef, undef, undef, undef]).toArray, []⟩) (by kernel_rfl) ?_
        refine wp_ret ?_
        refine then_ret ?_
        exact end1 (Try.results5) (by kernel_rfl) (by kernel_rfl) HA_5 H _ (.inr rfl)
      · refine wp_skip ?_
        refine then_normal ?_
        refine fr_eq (b := ⟨([x0, x1, x2, x3, undef, undef, undef, undef, (.bool false), x9, x29, undef, undef, undef, undef, undef, undef, undef, x0, x19, x20, undef, x22, x2, (D 0), (D 1), (D 2), (D 3), x28, x29, x29, x31, undef, undef, undef, undef, undef, undef, undef, undef, undef, undef, undef, undef, undef, undef, undef, undef, undef, undef] ++ [undef, undef, undef, undef, undef, undef, undef, undef, undef, undef, undef, undef, undef, undef, undef, undef, undef, undef, undef, undef, undef, undef, undef, undef, undef, undef, undef, undef, undef, undef, undef, undef, undef, undef, undef, undef, undef, undef, undef, undef, undef, undef, undef, undef, undef, undef, undef, undef, undef, undef] ++ [undef, undef, undef, undef, undef, undef, undef, undef, undef]).toArray, []⟩) (by kernel_rfl) ?_
        refine wp_seq ?_
        refine wp_seq ?_
        refine lwp_list ?_
        refine ls_assign (x := (.int .i64 0)) (by kernel_rfl) (by kernel_rfl) ?_
        refine ls_nil ?_
        refine then_normal ?_
        refine fr_eq (b := ⟨([x0, x1, x2, x3, undef, undef, undef, undef, (.bool false), x9, x29, (.int .i64 0), undef, undef, undef, undef, undef, undef, x0, x19, x20, undef, x22, x2, (D 0), (D 1), (D 2), (D 3), x28, x29, x29, x31, undef, undef, undef, undef, undef, undef, undef, undef, undef, undef, undef, undef, undef, undef, undef, undef, undef, undef] ++ [undef, undef, undef, undef, undef, undef, undef, undef, undef, undef, undef, undef, undef, undef, undef, undef, undef, undef, undef, undef, undef, undef, undef, undef, undef, undef, undef, undef, undef, undef, undef, undef, undef, undef, undef, undef, undef, undef, undef, undef, undef, undef, undef, undef, undef, undef, undef, undef, undef, undef] ++ [undef, undef, undef, undef, undef, undef, undef, undef, undef]).toArray, []⟩) (by kernel_rfl) ?_
        refine wp_block ?_
        obtain ⟨I, m, H0, HB⟩ := H
        refine wp_loop (fun a w => ∃ (D_1 : Nat → Value) (x11 : Value) (h_6 : Heap), a = ⟨([x0, x1, x2, x3, undef, undef, undef, undef, (.bool false), x9, x29, x11, undef, undef, undef, undef, undef, undef, x0, x19, x20, undef, x22, x2, (D 0), (D 1), (D 2), (D 3), x28, x29, x29, x31, (D_1 0), (D_1 1), (D_1 2), (D_1 3), (D_1 4), (D_1 5), (D_1 6), (D_1 7), (D_1 8), (D_1 9), (D_1 10), (D_1 11), (D_1 12), (D_1 13), undef, undef, undef, undef] ++ [undef, undef, undef, undef, undef, undef, undef, undef, undef, undef, undef, undef, undef, undef, undef, undef, undef, undef, undef, undef, undef, undef, undef, undef, undef, undef, undef, undef, undef, undef, undef, undef, undef, undef, undef, undef, undef, undef, undef, undef, undef, undef, undef, undef, undef, undef, undef, undef, undef, undef] ++ [undef, undef, undef, undef, undef, undef, undef, undef, undef]).toArray, []⟩ ∧ At w0 w h_6 ∧ I x11 h_6) (fun a w => m (a.tmps.getD 11 undef) w.heap) ?_ ?_
        · exact ⟨(fun i => ([undef, undef, undef, undef, undef, undef, undef, undef, undef, undef, undef, undef, undef, undef]).getD i undef), (.int .i64 0), h_5, by kernel_rfl, HA_5, H0⟩
        · rintro _ w_6 ⟨D_1, x11, h_6, rfl, HA_6, HI⟩
          have H : betonylaw18_LdiscSignals_l2 R x0 x1 x2 x3 x9 x29 (fun x11' h' => I x11' h' ∧ m x11' h' < m x11 h_6) x11 h_6 := HB x11 h_6 HI
          clear HB H0 HI
          unfold betonylaw18_LdiscSignals_l2 at H
          refine wp_seq ?_
          refine wp_seq ?_
          refine lwp_list ?_
          refine ls_move (x := x11) (by kernel_rfl) (by kernel_rfl) ?_
          refine ls_move (x := x0) (by kernel_rfl) (by kernel_rfl) ?_
          refine ls_p (d := some 34) (by kernel_rfl) (by kernel_rfl) (p_len Try.underlying30 (by kernel_rfl) H) (fun x34 H => ?_)
          refine ls_p (d := some 35) (by kernel_rfl) (by kernel_rfl) (p_sLt (by kernel_rfl) (by kernel_rfl) H) (fun x35 H => ?_)
          refine ls_nil ?_
          refine then_normal ?_
          refine fr_eq (b := ⟨([x0, x1, x2, x3, undef, undef, undef, undef, (.bool false), x9, x29, x11, undef, undef, undef, undef, undef, undef, x0, x19, x20, undef, x22, x2, (D 0), (D 1), (D 2), (D 3), x28, x29, x29, x31, x11, x0, x34, x35, (D_1 4), (D_1 5), (D_1 6), (D_1 7), (D_1 8), (D_1 9), (D_1 10), (D_1 11), (D_1 12), (D_1 13), undef, undef, undef, undef] ++ [undef, undef, undef, undef, undef, undef, undef, undef, undef, undef, undef, undef, undef, undef, undef, undef, undef, undef, undef, undef, undef, undef, undef, undef, undef, undef, undef, undef, undef, undef, undef, undef, undef, undef, undef, undef, undef, undef, undef, undef, undef, undef, undef, undef, undef, undef, undef, undef, undef, undef] ++ [undef, undef, undef, undef, undef, undef, undef, undef, undef]).toArray, []⟩) (by kernel_rfl) ?_
          refine wp_if rfl H (fun H => ?_) (fun H => ?_)
          · refine wp_skip ?_
            refine then_normal ?_
            refine fr_eq (b := ⟨([x0, x1, x2, x3, undef, undef, undef, undef, (.bool false), x9, x29, x11, undef, undef, undef, undef, undef, undef, x0, x19, x20, undef, x22, x2, (D 0), (D 1), (D 2), (D 3), x28, x29, x29, x31, x11, x0, x34, x35, (D_1 4), (D_1 5), (D_1 6), (D_1 7), (D_1 8), (D_1 9), (D_1 10), (D_1 11), (D_1 12), (D_1 13), undef, undef, undef, undef] ++ [undef, undef, undef, undef, undef, undef, undef, undef, undef, undef, undef, undef, undef, undef, undef, undef, undef, undef, undef, undef, undef, undef, undef, undef, undef, undef, undef, undef, undef, undef, undef, undef, undef, undef, undef, undef, undef, undef, undef, undef, undef, undef, undef, undef, undef, undef, undef, undef, undef, undef] ++ [undef, undef, undef, undef, undef, undef, undef, undef, undef]).toArray, []⟩) (by kernel_rfl) ?_
            refine wp_seq ?_
            refine wp_block ?_
            refine lwp_list ?_
            refine ls_move (x := x29) (by kernel_rfl) (by kernel_rfl) ?_
            refine ls_move (x := x0) (by kernel_rfl) (by kernel_rfl) ?_
            refine ls_move (x := x11) (by kernel_rfl) (by kernel_rfl) ?_
            refine ls_p (d := some 41) (by kernel_rfl) (by kernel_rfl) (p_ixs Try.underlying30 Try.sizeOf5 (by kernel_rfl) (by kernel_rfl) H) (fun x41 H => ?_)
            refine ls_y (d := some 42) (by kernel_rfl) (by kernel_rfl) HA_6 (y_ld Try.isAgg5 (by kernel_rfl) H) (fun x42 H => ?_)
            refine ls_p (d := some 43) (by kernel_rfl) (by kernel_rfl) (p_rem (by kernel_rfl) (by kernel_rfl) H) (fun x43 H => ?_)
            refine ls_fr (b := ⟨([x0, x1, x2, x3, undef, undef, undef, undef, (.bool false), x9, x29, x11, undef, undef, undef, undef, undef, undef, x0, x19, x20, undef, x22, x2, (D 0), (D 1), (D 2), (D 3), x28, x29, x29, x31, x11, x0, x34, x35, (D_1 4), (D_1 5), x29, x0, x11, x41, x42, x43, (D_1 12), (D_1 13), undef, undef, undef, undef] ++ [undef, undef, undef, undef, undef, undef, undef, undef, undef, undef, undef, undef, undef, undef, undef, undef, undef, undef, undef, undef, undef, undef, undef, undef, undef, undef, undef, undef, undef, undef, undef, undef, undef, undef, undef, undef, undef, undef, undef, undef, undef, undef, undef, undef, undef, undef, undef, undef, undef, undef] ++ [undef, undef, undef, undef, undef, undef, undef, undef, undef]).toArray, []⟩) (by kernel_rfl) ?_
            refine ls_p (d := some 44) (by kernel_rfl) (by kernel_rfl) (p_add (by kernel_rfl) (by kernel_rfl) H) (fun x44 H => ?_)
            refine ls_d (d := some 45) (by kernel_rfl) (by kernel_rfl) HA_6 (d_call (by kernel_rfl) (by kernel_rfl) H) (fun x45 h_7 w_7 H HA_7 => ?_)
            refine ls_nil ?_
            refine block_normal ?_
            refine then_normal ?_
            refine fr_eq (b := ⟨([x0, x1, x2, x3, undef, undef, undef, undef, (.bool false), x9, x29, x11, undef, undef, undef, undef, undef, undef, x0, x19, x20, undef, x22, x2, (D 0), (D 1), (D 2), (D 3), x28, x29, x29, x31, x11, x0, x34, x35, (D_1 4), (D_1 5), x29, x0, x11, x41, x42, x43, x44, x45, undef, undef, undef, undef] ++ [undef, undef, undef, undef, undef, undef, undef, undef, undef, undef, undef, undef, undef, undef, undef, undef, undef, undef, undef, undef, undef, undef, undef, undef, undef, undef, undef, undef, undef, undef, undef, undef, undef, undef, undef, undef, undef, undef, undef, undef, undef, undef, undef, undef, undef, undef, undef, undef, undef, undef] ++ [undef, undef, undef, undef, undef, undef, undef, undef, undef]).toArray, []⟩) (by kernel_rfl) ?_
            refine lwp_list ?_
            refine ls_move (x := x11) (by kernel_rfl) (by kernel_rfl) ?_
            refine ls_p (d := some 37) (by kernel_rfl) (by kernel_rfl) (p_add (by kernel_rfl) (by kernel_rfl) H) (fun x37 H => ?_)
            refine ls_assign (x := x37) (by kernel_rfl) (by kernel_rfl) ?_
            refine ls_nil ?_
            exact ⟨⟨(fun i => ([x11, x0, x34, x35, x11, x37, x29, x0, x11, x41, x42, x43, x44, x45]).getD i undef), x37, h_7, by kernel_rfl, HA_7, H.1⟩, loop_lt HA_7.heap HA_6.heap (by kernel_rfl) (by kernel_rfl) H.2⟩
          · refine wp_exit ?_
            refine then_exit ?_
            refine then_exit ?_
            refine block_exit ?_
            refine then_normal ?_
            refine fr_eq (b := ⟨([x0, x1, x2, x3, undef, undef, undef, undef, (.bool false), x9, x29, x11, undef, undef, undef, undef, undef, undef, x0, x19, x20, undef, x22, x2, (D 0), (D 1), (D 2), (D 3), x28, x29, x29, x31, x11, x0, x34, x35, (D_1 4), (D_1 5), (D_1 6), (D_1 7), (D_1 8), (D_1 9), (D_1 10), (D_1 11), (D_1 12), (D_1 13), undef, undef, undef, undef] ++ [undef, undef, undef, undef, undef, undef, undef, undef, undef, undef, undef, undef, undef, undef, undef, undef, undef, undef, undef, undef, undef, undef, undef, undef, undef, undef, undef, undef, undef, undef, undef, undef, undef, undef, undef, undef, undef, undef, undef, undef, undef, undef, undef, undef, undef, undef, undef, undef, undef, undef] ++ [undef, undef, undef, undef, undef, undef, undef, undef, undef]).toArray, []⟩) (by kernel_rfl) ?_
            refine wp_seq ?_
            refine lwp_list ?_
            refine ls_move (x := x1) (by kernel_rfl) (by kernel_rfl) ?_
            refine ls_p (d := some 47) (by kernel_rfl) (by kernel_rfl) (p_conv Try.underlying5 Try.underlying3 (by kernel_rfl) H) (fun x47 H => ?_)
            refine ls_p (d := some 48) (by kernel_rfl) (by kernel_rfl) (p_rem (by kernel_rfl) (by kernel_rfl) H) (fun x48 H => ?_)
            refine ls_assign (x := x48) (by kernel_rfl) (by kernel_rfl) ?_
            refine ls_nil ?_
            refine then_normal ?_
            refine fr_eq (b := ⟨([x0, x1, x2, x3, undef, undef, undef, undef, (.bool false), x9, x29, x11, x48, undef, undef, undef, undef, undef, x0, x19, x20, undef, x22, x2, (D 0), (D 1), (D 2), (D 3), x28, x29, x29, x31, x11, x0, x34, x35, (D_1 4), (D_1 5), (D_1 6), (D_1 7), (D_1 8), (D_1 9), (D_1 10), (D_1 11), (D_1 12), (D_1 13), x1, x47, x48, undef] ++ [undef, undef, undef, undef, undef, undef, undef, undef, undef, undef, undef, undef, undef, undef, undef, undef, undef, undef, undef, undef, undef, undef, undef, undef, undef, undef, undef, undef, undef, undef, undef, undef, undef, undef, undef, undef, undef, undef, undef, undef, undef, undef, undef, undef, undef, undef, undef, undef, undef, undef] ++ [undef, undef, undef, undef, undef, undef, undef, undef, undef]).toArray, []⟩) (by kernel_rfl) ?_
            refine wp_seq ?_
            refine lwp_list ?_
            refine ls_move (x := x48) (by kernel_rfl) (by kernel_rfl) ?_
            refine ls_p (d := some 50) (by kernel_rfl) (by kernel_rfl) (p_off Try.underlying28 rfl (fun w => ⟨_, Try.sizeOf26 w⟩) rfl (by kernel_rfl) H) (fun x50 H => ?_)
            refine ls_p (d := some 51) (by kernel_rfl) (by kernel_rfl) (p_ixa Try.underlying26 Try.sizeOf3 (by kernel_rfl) (by kernel_rfl) H) (fun x51 H => ?_)
            refine ls_y (d := some 52) (by kernel_rfl) (by kernel_rfl) HA_6 (y_ld Try.isAgg3 (by kernel_rfl) H) (fun x52 H => ?_)
            refine ls_p (d := some 53) (by kernel_rfl) (by kernel_rfl) (p_conv Try.underlying3 Try.underlying5 (by kernel_rfl) H) (fun x53 H => ?_)
            refine ls_assign (x := x53) (by kernel_rfl) (by kernel_rfl) ?_
            refine ls_nil ?_
            refine then_normal ?_
            refine fr_eq (b := ⟨([x0, x1, x2, x3, undef, undef, undef, undef, (.bool false), x9, x29, x11, x48, x53, undef, undef, undef, undef, x0, x19, x20, undef, x22, x2, (D 0), (D 1), (D 2), (D 3), x28, x29, x29, x31, x11, x0, x34, x35, (D_1 4), (D_1 5), (D_1 6), (D_1 7), (D_1 8), (D_1 9), (D_1 10), (D_1 11), (D_1 12), (D_1 13), x1, x47, x48, x48] ++ [x50, x51, x52, x53, undef, undef, undef, undef, undef, undef, undef, undef, undef, undef, undef, undef, undef, undef, undef, undef, undef, undef, undef, undef, undef, undef, undef, undef, undef, undef, undef, undef, undef, undef, undef, undef, undef, undef, undef, undef, undef, undef, undef, undef, undef, undef, undef, undef, undef, undef] ++ [undef, undef, undef, undef, undef, undef, undef, undef, undef]).toArray, []⟩) (by kernel_rfl) ?_
            refine wp_seq ?_
            refine wp_seq ?_
            refine lwp_list ?_
            refine ls_move (x := x3) (by kernel_rfl) (by kernel_rfl) ?_
            refine ls_nil ?_
            refine then_normal ?_
            refine fr_eq (b := ⟨([x0, x1, x2, x3, undef, undef, undef, undef, (.bool false), x9, x29, x11, x48, x53, undef, undef, undef, undef, x0, x19, x20, undef, x22, x2, (D 0), (D 1), (D 2), (D 3), x28, x29, x29, x31, x11, x0, x34, x35, (D_1 4), (D_1 5), (D_1 6), (D_1 7), (D_1 8), (D_1 9), (D_1 10), (D_1 11), (D_1 12), (D_1 13), x1, x47, x48, x48] ++ [x50, x51, x52, x53, x3, undef, undef, undef, undef, undef, undef, undef, undef, undef, undef, undef, undef, undef, undef, undef, undef, undef, undef, undef, undef, undef, undef, undef, undef, undef, undef, undef, undef, undef, undef, undef, undef, undef, undef, undef, undef, undef, undef, undef, undef, undef, undef, undef, undef, undef] ++ [undef, undef, undef, undef, undef, undef, undef, undef, undef]).toArray, []⟩) (by kernel_rfl) ?_
            refine wp_join (fun a w => ∃ (D_2 : Nat → Value) (h_8 : Heap), a = ⟨([x0, x1, x2, x3, undef, undef, undef, undef, (.bool false), x9, x29, x11, x48, x53, undef, undef, undef, undef, x0, x19, x20, undef, x22, x2, (D 0), (D 1), (D 2), (D 3), x28, x29, x29, x31, x11, x0, x34, x35, (D_1 4), (D_1 5), (D_1 6), (D_1 7), (D_1 8), (D_1 9), (D_1 10), (D_1 11), (D_1 12), (D_1 13), x1, x47, x48, x48] ++ [x50, x51, x52, x53, x3, (D_2 0), (D_2 1), (D_2 2), (D_2 3), (D_2 4), (D_2 5), undef, undef, undef, undef, undef, undef, undef, undef, undef, undef, undef, undef, undef, undef, undef, undef, undef, undef, undef, undef, undef, undef, undef, undef, undef, undef, undef, undef, undef, undef, undef, undef, undef, undef, undef, undef, undef, undef, undef] ++ [undef, undef, undef, undef, undef, undef, undef, undef, undef]).toArray, []⟩ ∧ At w0 w h_8 ∧ betonylaw18_LdiscSignals_j3 R x0 x2 x3 x29 x48 x53 h_8) ?_ ?_
            · refine wp_if rfl H (fun H => ?_) (fun H => ?_)
              · refine lwp_list ?_
                refine ls_move (x := x29) (by kernel_rfl) (by kernel_rfl) ?_
                refine ls_p (d := some 56) (by kernel_rfl) (by kernel_rfl) (p_off Try.underlying28 rfl (fun w => ⟨_, Try.sizeOf26 w⟩) rfl (by kernel_rfl) H) (fun x56 H => ?_)
                refine ls_p (d := some 57) (by kernel_rfl) (by kernel_rfl) (p_ixa Try.underlying26 Try.sizeOf3 (by kernel_rfl) (by kernel_rfl) H) (fun x57 H => ?_)
                refine ls_y (d := some 58) (by kernel_rfl) (by kernel_rfl) HA_6 (y_ld Try.isAgg3 (by kernel_rfl) H) (fun x58 H => ?_)
                refine ls_p (d := some 59) (by kernel_rfl) (by kernel_rfl) (p_conv Try.underlying3 Try.underlying5 (by kernel_rfl) H) (fun x59 H => ?_)
                refine ls_d (d := some 60) (by kernel_rfl) (by kernel_rfl) HA_6 (d_call (by kernel_rfl) (by kernel_rfl) H) (fun x60 h_18 w_20 H HA_20 => ?_)
                refine ls_nil ?_
                exact ⟨(fun i => ([x29, x56, x57, x58, x59, x60]).getD i undef), h_18, by kernel_rfl, HA_20, H⟩
              · refine wp_skip ?_
                exact ⟨(fun i => ([undef, undef, undef, undef, undef, undef]).getD i undef), h_6, by kernel_rfl, HA_6, H⟩
            · rintro _ w_8 ⟨D_2, h_8, rfl, HA_8, H⟩
              unfold betonylaw18_LdiscSignals_j3 at H
              refine then_normal ?_
              refine fr_eq (b := ⟨([x0, x1, x2, x3, undef, undef, undef, undef, (.bool false), x9, x29, x11, x48, x53, undef, undef, undef, undef, x0, x19, x20, undef, x22, x2, (D 0), (D 1), (D 2), (D 3), x28, x29, x29, x31, x11, x0, x34, x35, (D_1 4), (D_1 5), (D_1 6), (D_1 7), (D_1 8), (D_1 9), (D_1 10), (D_1 11), (D_1 12), (D_1 13), x1, x47, x48, x48] ++ [x50, x51, x52, x53, x3, (D_2 0), (D_2 1), (D_2 2), (D_2 3), (D_2 4), (D_2 5), undef, undef, undef, undef, undef, undef, undef, undef, undef, undef, undef, undef, undef, undef, undef, undef, undef, undef, undef, undef, undef, undef, undef, undef, undef, undef, undef, undef, undef, undef, undef, undef, undef, undef, undef, undef, undef, undef, undef] ++ [undef, undef, undef, undef, undef, undef, undef, undef, undef]).toArray, []⟩) (by kernel_rfl) ?_
              refine wp_seq ?_
              refine lwp_list ?_
              refine ls_move (x := x29) (by kernel_rfl) (by kernel_rfl) ?_
              refine ls_move (x := x53) (by kernel_rfl) (by kernel_rfl) ?_
              refine ls_d (d := some 64) (by kernel_rfl) (by kernel_rfl) HA_8 (d_call (by kernel_rfl) (by kernel_rfl) H) (fun x64 h_9 w_9 H HA_9 => ?_)
              refine ls_move (x := x64) (by kernel_rfl) (by kernel_rfl) ?_
              refine ls_p (d := some 65) (by kernel_rfl) (by kernel_rfl) (p_tup (by kernel_rfl) H) (fun x65 H => ?_)
              refine ls_p (d := some 66) (by kernel_rfl) (by kernel_rfl) (p_tup (by kernel_rfl) H) (fun x66 H => ?_)
              refine ls_fr (b := ⟨([x0, x1, x2, x3, undef, undef, undef, undef, (.bool false), x9, x29, x11, x48, x53, undef, undef, undef, undef, x0, x19, x20, undef, x22, x2, (D 0), (D 1), (D 2), (D 3), x28, x29, x29, x31, x11, x0, x34, x35, (D_1 4), (D_1 5), (D_1 6), (D_1 7), (D_1 8), (D_1 9), (D_1 10), (D_1 11), (D_1 12), (D_1 13), x1, x47, x48, x48] ++ [x50, x51, x52, x53, x3, (D_2 0), (D_2 1), (D_2 2), (D_2 3), (D_2 4), (D_2 5), x64, x29, x53, x64, x65, x66, undef, undef, undef, undef, undef, undef, undef, undef, undef, undef, undef, undef, undef, undef, undef, undef, undef, undef, undef, undef, undef, undef, undef, undef, undef, undef, undef, undef, undef, undef, undef, undef, undef] ++ [undef, undef, undef, undef, undef, undef, undef, undef, undef]).toArray, []⟩) (by kernel_rfl) ?_
              refine ls_assign (x := x65) (by kernel_rfl) (by kernel_rfl) ?_
              refine ls_assign (x := x66) (by kernel_rfl) (by kernel_rfl) ?_
              refine ls_nil ?_
              refine then_normal ?_
              refine fr_eq (b := ⟨([x0, x1, x2, x3, undef, undef, undef, undef, (.bool false), x9, x29, x11, x48, x53, x65, x66, undef, undef, x0, x19, x20, undef, x22, x2, (D 0), (D 1), (D 2), (D 3), x28, x29, x29, x31, x11, x0, x34, x35, (D_1 4), (D_1 5), (D_1 6), (D_1 7), (D_1 8), (D_1 9), (D_1 10), (D_1 11), (D_1 12), (D_1 13), x1, x47, x48, x48] ++ [x50, x51, x52, x53, x3, (D_2 0), (D_2 1), (D_2 2), (D_2 3), (D_2 4), (D_2 5), x64, x29, x53, x64, x65, x66, undef, undef, undef, undef, undef, undef, undef, undef, undef, undef, undef, undef, undef, undef, undef, undef, undef, undef, undef, undef, undef, undef, undef, undef, undef, undef, undef, undef, undef, undef, undef, undef, undef] ++ [undef, undef, undef, undef, undef, undef, undef, undef, undef]).toArray, []⟩) (by kernel_rfl) ?_
              refine wp_seq ?_
              refine wp_seq ?_
              refine lwp_list ?_
              refine ls_move (x := x3) (by kernel_rfl) (by kernel_rfl) ?_
              refine ls_nil ?_
              refine then_normal ?_
              refine fr_eq (b := ⟨([x0, x1, x2, x3, undef, undef, undef, undef, (.bool false), x9, x29, x11, x48, x53, x65, x66, undef, undef, x0, x19, x20, undef, x22, x2, (D 0), (D 1), (D 2), (D 3), x28, x29, x29, x31, x11, x0, x34, x35, (D_1 4), (D_1 5), (D_1 6), (D_1 7), (D_1 8), (D_1 9), (D_1 10), (D_1 11), (D_1 12), (D_1 13), x1, x47, x48, x48] ++ [x50, x51, x52, x53, x3, (D_2 0), (D_2 1), (D_2 2), (D_2 3), (D_2 4), (D_2 5), x64, x29, x53, x64, x65, x66, x3, undef, undef, undef, undef, undef, undef, undef, undef, undef, undef, undef, undef, undef, undef, undef, undef, undef, undef, undef, undef, undef, undef, undef, undef, undef, undef, undef, undef, undef, undef, undef, undef] ++ [undef, undef, undef, undef, undef, undef, undef, undef, undef]).toArray, []⟩) (by kernel_rfl) ?_
              refine wp_if rfl H (fun H => ?_) (fun H => ?_)
              · refine wp_seq ?_
                refine lwp_list ?_
                refine ls_move (x := x29) (by kernel_rfl) (by kernel_rfl) ?_
                refine ls_d (d := some 69) (by kernel_rfl) (by kernel_rfl) HA_9 (d_call (by kernel_rfl) (by kernel_rfl) H) (fun x69 h_10 w_10 H HA_10 => ?_)
                refine ls_assign (x := x69) (by kernel_rfl) (by kernel_rfl) ?_
                refine ls_nil ?_
                refine then_normal ?_
                refine fr_eq (b := ⟨([x0, x1, x2, x3, undef, undef, undef, undef, (.bool false), x9, x29, x11, x48, x53, x65, x66, x69, undef, x0, x19, x20, undef, x22, x2, (D 0), (D 1), (D 2), (D 3), x28, x29, x29, x31, x11, x0, x34, x35, (D_1 4), (D_1 5), (D_1 6), (D_1 7), (D_1 8), (D_1 9), (D_1 10), (D_1 11), (D_1 12), (D_1 13), x1, x47, x48, x48] ++ [x50, x51, x52, x53, x3, (D_2 0), (D_2 1), (D_2 2), (D_2 3), (D_2 4), (D_2 5), x64, x29, x53, x64, x65, x66, x3, x29, x69, undef, undef, undef, undef, undef, undef, undef, undef, undef, undef, undef, undef, undef, undef, undef, undef, undef, undef, undef, undef, undef, undef, undef, undef, undef, undef, undef, undef, undef, undef] ++ [undef, undef, undef, undef, undef, undef, undef, undef, undef]).toArray, []⟩) (by kernel_rfl) ?_
                refine wp_seq ?_
                refine lwp_list ?_
                refine ls_move (x := x66) (by kernel_rfl) (by kernel_rfl) ?_
                refine ls_p (d := some 71) (by kernel_rfl) (by kernel_rfl) (p_sEq (by kernel_rfl) (by kernel_rfl) H) (fun x71 H => ?_)
                refine ls_move (x := x71) (by kernel_rfl) (by kernel_rfl) ?_
                refine ls_and [(), (), (), (), (), (), ()] (fun K a w => ∃ (D_3 : Nat → Value) (x79 : Value), a = ⟨([x0, x1, x2, x3, undef, undef, undef, undef, (.bool false), x9, x29, x11, x48, x53, x65, x66, x69, undef, x0, x19, x20, undef, x22, x2, (D 0), (D 1), (D 2), (D 3), x28, x29, x29, x31, x11, x0, x34, x35, (D_1 4), (D_1 5), (D_1 6), (D_1 7), (D_1 8), (D_1 9), (D_1 10), (D_1 11), (D_1 12), (D_1 13), x1, x47, x48, x48] ++ [x50, x51, x52, x53, x3, (D_2 0), (D_2 1), (D_2 2), (D_2 3), (D_2 4), (D_2 5), x64, x29, x53, x64, x65, x66, x3, x29, x69, x66, x71, x71, (D_3 0), (D_3 1), (D_3 2), (D_3 3), (D_3 4), (D_3 5), x79, undef, undef, undef, undef, undef, undef, undef, undef, undef, undef, undef, undef, undef, undef, undef, undef, undef, undef, undef, undef] ++ [undef, undef, undef, undef, undef, undef, undef, undef, undef]).toArray, []⟩ ∧ At w0 w h_10 ∧ K x79) H (fun hb_2 H => ?_) (fun hb_2 H => ?_) ?_
                · refine ls_move (x := x69) (by rw [hb_2]; kernel_rfl) (by kernel_rfl) ?_
                  refine ls_p (d := some 74) (by kernel_rfl) (by rw [hb_2]; kernel_rfl) (p_len Try.underlying30 (by kernel_rfl) H) (fun x74 H => ?_)
                  refine ls_move (x := x0) (by rw [hb_2]; kernel_rfl) (by kernel_rfl) ?_
                  refine ls_fr (b := ⟨([x0, x1, x2, x3, undef, undef, undef, undef, (.bool false), x9, x29, x11, x48, x53, x65, x66, x69, undef, x0, x19, x20, undef, x22, x2, (D 0), (D 1), (D 2), (D 3), x28, x29, x29, x31, x11, x0, x34, x35, (D_1 4), (D_1 5), (D_1 6), (D_1 7), (D_1 8), (D_1 9), (D_1 10), (D_1 11), (D_1 12), (D_1 13), x1, x47, x48, x48] ++ [x50, x51, x52, x53, x3, (D_2 0), (D_2 1), (D_2 2), (D_2 3), (D_2 4), (D_2 5), x64, x29, x53, x64, x65, x66, x3, x29, x69, x66, x71, x71, x69, x74, x0, undef, undef, undef, undef, undef, undef, undef, undef, undef, undef, undef, undef, undef, undef, undef, undef, undef, undef, undef, undef, undef, undef, undef, undef] ++ [undef, undef, undef, undef, undef, undef, undef, undef, undef]).toArray, []⟩) (by kernel_rfl) ?_
                  refine ls_p (d := some 76) (by kernel_rfl) (by rw [hb_2]; kernel_rfl) (p_len Try.underlying30 (by kernel_rfl) H) (fun x76 H => ?_)
                  refine ls_p (d := some 77) (by kernel_rfl) (by rw [hb_2]; kernel_rfl) (p_add (by kernel_rfl) (by kernel_rfl) H) (fun x77 H => ?_)
                  refine ls_p (d := some 78) (by kernel_rfl) (by rw [hb_2]; kernel_rfl) (p_sEq (by kernel_rfl) (by kernel_rfl) H) (fun x78 H => ?_)
                  refine ls_pick_t (x := x78) (by kernel_rfl) (by rw [hb_2]; kernel_rfl) (by kernel_rfl) ?_
                  refine ls_nil ?_
                  refine then_normal ?_
                  exact ⟨(fun i => ([x69, x74, x0, x76, x77, x78]).getD i undef), x78, by kernel_rfl, HA_10, H⟩
                · refine ls_skip (d := some 73) (by kernel_rfl) (by rw [hb_2]; kernel_rfl) ?_
                  refine ls_skip (d := some 74) (by kernel_rfl) (by rw [hb_2]; kernel_rfl) ?_
                  refine ls_skip (d := some 75) (by kernel_rfl) (by rw [hb_2]; kernel_rfl) ?_
                  refine ls_fr (b := ⟨([x0, x1, x2, x3, undef, undef, undef, undef, (.bool false), x9, x29, x11, x48, x53, x65, x66, x69, undef, x0, x19, x20, undef, x22, x2, (D 0), (D 1), (D 2), (D 3), x28, x29, x29, x31, x11, x0, x34, x35, (D_1 4), (D_1 5), (D_1 6), (D_1 7), (D_1 8), (D_1 9), (D_1 10), (D_1 11), (D_1 12), (D_1 13), x1, x47, x48, x48] ++ [x50, x51, x52, x53, x3, (D_2 0), (D_2 1), (D_2 2), (D_2 3), (D_2 4), (D_2 5), x64, x29, x53, x64, x65, x66, x3, x29, x69, x66, x71, x71, undef, undef, undef, undef, undef, undef, undef, undef, undef, undef, undef, undef, undef, undef, undef, undef, undef, undef, undef, undef, undef, undef, undef, undef, undef, undef, undef] ++ [undef, undef, undef, undef, undef, undef, undef, undef, undef]).toArray, []⟩) (by kernel_rfl) ?_
                  refine ls_skip (d := some 76) (by kernel_rfl) (by rw [hb_2]; kernel_rfl) ?_
                  refine ls_skip (d := some 77) (by kernel_rfl) (by rw [hb_2]; kernel_rfl) ?_
                  refine ls_skip (d := some 78) (by kernel_rfl) (by rw [hb_2]; kernel_rfl) ?_
                  refine ls_pick_f (y := (.bool false)) (by kernel_rfl) (by rw [hb_2]; kernel_rfl) (by kernel_rfl) ?_
                  refine ls_nil ?_
                  refine then_normal ?_
                  exact ⟨(fun i => ([undef, undef, undef, undef, undef, undef]).getD i undef), (.bool false), by kernel_rfl, HA_10, H⟩
                · rintro _ w_11 ⟨D_3, x79, rfl, HA_11, H⟩
                  refine ls_move (x := x79) (by kernel_rfl) (by kernel_rfl) ?_
                  refine ls_and [(), (), (), (), (), (), (), ()] (fun K a w => ∃ (D_4 : Nat → Value) (x88 : Value), a = ⟨([x0, x1, x2, x3, undef, undef, undef, undef, (.bool false), x9, x29, x11, x48, x53, x65, x66, x69, undef, x0, x19, x20, undef, x22, x2, (D 0), (D 1), (D 2), (D 3), x28, x29, x29, x31, x11, x0, x34, x35, (D_1 4), (D_1 5), (D_1 6), (D_1 7), (D_1 8), (D_1 9), (D_1 10), (D_1 11), (D_1 12), (D_1 13), x1, x47, x48, x48] ++ [x50, x51, x52, x53, x3, (D_2 0), (D_2 1), (D_2 2), (D_2 3), (D_2 4), (D_2 5), x64, x29, x53, x64, x65, x66, x3, x29, x69, x66, x71, x71, (D_3 0), (D_3 1), (D_3 2), (D_3 3), (D_3 4), (D_3 5), x79, x79, (D_4 0), (D_4 1), (D_4 2), (D_4 3), (D_4 4), (D_4 5), (D_4 6), x88, undef, undef, undef, undef, undef, undef, undef, undef, undef, undef, undef] ++ [undef, undef, undef, undef, undef, undef, undef, undef, undef]).toArray, []⟩ ∧ At w0 w h_10 ∧ K x88) H (fun hb_1 H => ?_) (fun hb_1 H => ?_) ?_
                  · refine ls_move (x := x69) (by rw [hb_1]; kernel_rfl) (by kernel_rfl) ?_
                    refine ls_move (x := x0) (by rw [hb_1]; kernel_rfl) (by kernel_rfl) ?_
                    refine ls_p (d := some 83) (by kernel_rfl) (by rw [hb_1]; kernel_rfl) (p_len Try.underlying30 (by kernel_rfl) H) (fun x83 H => ?_)
                    refine ls_p (d := some 84) (by kernel_rfl) (by rw [hb_1]; kernel_rfl) (p_ixs Try.underlying30 Try.sizeOf5 (by kernel_rfl) (by kernel_rfl) H) (fun x84 H => ?_)
                    refine ls_y (d := some 85) (by kernel_rfl) (by rw [hb_1]; kernel_rfl) HA_11 (y_ld Try.isAgg5 (by kernel_rfl) H) (fun x85 H => ?_)
                    refine ls_fr (b := ⟨([x0, x1, x2, x3, undef, undef, undef, undef, (.bool false), x9, x29, x11, x48, x53, x65, x66, x69, undef, x0, x19, x20, undef, x22, x2, (D 0), (D 1), (D 2), (D 3), x28, x29, x29, x31, x11, x0, x34, x35, (D_1 4), (D_1 5), (D_1 6), (D_1 7), (D_1 8), (D_1 9), (D_1 10), (D_1 11), (D_1 12), (D_1 13), x1, x47, x48, x48] ++ [x50, x51, x52, x53, x3, (D_2 0), (D_2 1), (D_2 2), (D_2 3), (D_2 4), (D_2 5), x64, x29, x53, x64, x65, x66, x3, x29, x69, x66, x71, x71, (D_3 0), (D_3 1), (D_3 2), (D_3 3), (D_3 4), (D_3 5), x79, x79, x69, x0, x83, x84, x85, undef, undef, undef, undef, undef, undef, undef, undef, undef, undef, undef, undef, undef, undef] ++ [undef, undef, undef, undef, undef, undef, undef, undef, undef]).toArray, []⟩) (by kernel_rfl) ?_
                    refine ls_move (x := x53) (by rw [hb_1]; kernel_rfl) (by kernel_rfl) ?_
                    refine ls_p (d := some 87) (by kernel_rfl) (by rw [hb_1]; kernel_rfl) (p_sEq (by kernel_rfl) (by kernel_rfl) H) (fun x87 H => ?_)
                    refine ls_pick_t (x := x87) (by kernel_rfl) (by rw [hb_1]; kernel_rfl) (by kernel_rfl) ?_
                    refine ls_nil ?_
                    refine then_normal ?_
                    exact ⟨(fun i => ([x69, x0, x83, x84, x85, x53, x87]).getD i undef), x87, by kernel_rfl, HA_11, H⟩
                  · refine ls_skip (d := some 81) (by kernel_rfl) (by rw [hb_1]; kernel_rfl) ?_
                    refine ls_skip (d := some 82) (by kernel_rfl) (by rw [hb_1]; kernel_rfl) ?_
                    refine ls_skip (d := some 83) (by kernel_rfl) (by rw [hb_1]; kernel_rfl) ?_
                    refine ls_skip (d := some 84) (by kernel_rfl) (by rw [hb_1]; kernel_rfl) ?_
                    refine ls_skip (d := some 85) (by kernel_rfl) (by rw [hb_1]; kernel_rfl) ?_
                    refine ls_fr (b := ⟨([x0, x1, x2, x3, undef, undef, undef, undef, (.bool false), x9, x29, x11, x48, x53, x65, x66, x69, undef, x0, x19, x20, undef, x22, x2, (D 0), (D 1), (D 2), (D 3), x28, x29, x29, x31, x11, x0, x34, x35, (D_1 4), (D_1 5), (D_1 6), (D_1 7), (D_1 8), (D_1 9), (D_1 10), (D_1 11), (D_1 12), (D_1 13), x1, x47, x48, x48] ++ [x50, x51, x52, x53, x3, (D_2 0), (D_2 1), (D_2 2), (D_2 3), (D_2 4), (D_2 5), x64, x29, x53, x64, x65, x66, x3, x29, x69, x66, x71, x71, (D_3 0), (D_3 1), (D_3 2), (D_3 3), (D_3 4), (D_3 5), x79, x79, undef, undef, undef, undef, undef, undef, undef, undef, undef, undef, undef, undef, undef, undef, undef, undef, undef, undef, undef] ++ [undef, undef, undef, undef, undef, undef, undef, undef, undef]).toArray, []⟩) (by kernel_rfl) ?_
                    refine ls_skip (d := some 86) (by kernel_rfl) (by rw [hb_1]; kernel_rfl) ?_
                    refine ls_skip (d := some 87) (by kernel_rfl) (by rw [hb_1]; kernel_rfl) ?_
                    refine ls_pick_f (y := (.bool false)) (by kernel_rfl) (by rw [hb_1]; kernel_rfl) (by kernel_rfl) ?_
                    refine ls_nil ?_
                    refine then_normal ?_
                    exact ⟨(fun i => ([undef, undef, undef, undef, undef, undef, undef]).getD i undef), (.bool false), by kernel_rfl, HA_11, H⟩
                  · rintro _ w_12 ⟨D_4, x88, rfl, HA_12, H⟩
                    refine ls_move (x := x88) (by kernel_rfl) (by kernel_rfl) ?_
                    refine ls_andh [(), ()] (fun K a w => ∃ (D_5 : Nat → Value) (x91 : Value) (h_11 : Heap), a = ⟨([x0, x1, x2, x3, undef, undef, undef, undef, (.bool false), x9, x29, x11, x48, x53, x65, x66, x69, undef, x0, x19, x20, undef, x22, x2, (D 0), (D 1), (D 2), (D 3), x28, x29, x29, x31, x11, x0, x34, x35, (D_1 4), (D_1 5), (D_1 6), (D_1 7), (D_1 8), (D_1 9), (D_1 10), (D_1 11), (D_1 12), (D_1 13), x1, x47, x48, x48] ++ [x50, x51, x52, x53, x3, (D_2 0), (D_2 1), (D_2 2), (D_2 3), (D_2 4), (D_2 5), x64, x29, x53, x64, x65, x66, x3, x29, x69, x66, x71, x71, (D_3 0), (D_3 1), (D_3 2), (D_3 3), (D_3 4), (D_3 5), x79, x79, (D_4 0), (D_4 1), (D_4 2), (D_4 3), (D_4 4), (D_4 5), (D_4 6), x88, x88, (D_5 0), x91, undef, undef, undef, undef, undef, undef, undef, undef] ++ [undef, undef, undef, undef, undef, undef, undef, undef, undef]).toArray, []⟩ ∧ At w0 w h_11 ∧ K x91 h_11) H (fun hb H => ?_) (fun hb H => ?_) ?_
                    · refine ls_d (d := some 90) (by kernel_rfl) (by rw [hb]; kernel_rfl) HA_12 (d_call (by kernel_rfl) (by kernel_rfl) H) (fun x90 h_12 w_14 H HA_14 => ?_)
                      refine ls_pick_t (x := x90) (by kernel_rfl) (by rw [hb]; kernel_rfl) (by kernel_rfl) ?_
                      refine ls_nil ?_
                      refine then_normal ?_
                      exact ⟨(fun i => ([x90]).getD i undef), x90, h_12, by kernel_rfl, HA_14, H⟩
                    · refine ls_skip (d := some 90) (by kernel_rfl) (by rw [hb]; kernel_rfl) ?_
                      refine ls_pick_f (y := (.bool false)) (by kernel_rfl) (by rw [hb]; kernel_rfl) (by kernel_rfl) ?_
                      refine ls_nil ?_
                      refine then_normal ?_
                      exact ⟨(fun i => ([undef]).getD i undef), (.bool false), h_10, by kernel_rfl, HA_12, H⟩
                    · rintro _ w_13 ⟨D_5, x91, h_11, rfl, HA_13, H⟩
                      refine ls_assign (x := x91) (by kernel_rfl) (by kernel_rfl) ?_
                      refine ls_nil ?_
                      refine then_normal ?_
                      refine fr_eq (b := ⟨([x0, x1, x2, x3, undef, undef, undef, undef, x91, x9, x29, x11, x48, x53, x65, x66, x69, undef, x0, x19, x20, undef, x22, x2, (D 0), (D 1), (D 2), (D 3), x28, x29, x29, x31, x11, x0, x34, x35, (D_1 4), (D_1 5), (D_1 6), (D_1 7), (D_1 8), (D_1 9), (D_1 10), (D_1 11), (D_1 12), (D_1 13), x1, x47, x48, x48] ++ [x50, x51, x52, x53, x3, (D_2 0), (D_2 1), (D_2 2), (D_2 3), (D_2 4), (D_2 5), x64, x29, x53, x64, x65, x66, x3, x29, x69, x66, x71, x71, (D_3 0), (D_3 1), (D_3 2), (D_3 3), (D_3 4), (D_3 5), x79, x79, (D_4 0), (D_4 1), (D_4 2), (D_4 3), (D_4 4), (D_4 5), (D_4 6), x88, x88, (D_5 0), x91, undef, undef, undef, undef, undef, undef, undef, undef] ++ [undef, undef, undef, undef, undef, undef, undef, undef, undef]).toArray, []⟩) (by kernel_rfl) ?_
                      refine wp_ret ?_
                      refine then_ret ?_
                      exact end1 (Try.results5) (by kernel_rfl) (by kernel_rfl) HA_13 H _ (.inr rfl)
              · refine wp_skip ?_
                refine then_normal ?_
                refine fr_eq (b := ⟨([x0, x1, x2, x3, undef, undef, undef, undef, (.bool false), x9, x29, x11, x48, x53, x65, x66, undef, undef, x0, x19, x20, undef, x22, x2, (D 0), (D 1), (D 2), (D 3), x28, x29, x29, x31, x11, x0, x34, x35, (D_1 4), (D_1 5), (D_1 6), (D_1 7), (D_1 8), (D_1 9), (D_1 10), (D_1 11), (D_1 12), (D_1 13), x1, x47, x48, x48] ++ [x50, x51, x52, x53, x3, (D_2 0), (D_2 1), (D_2 2), (D_2 3), (D_2 4), (D_2 5), x64, x29, x53, x64, x65, x66, x3, undef, undef, undef, undef, undef, undef, undef, undef, undef, undef, undef, undef, undef, undef, undef, undef, undef, undef, undef, undef, undef, undef, undef, undef, undef, undef, undef, undef, undef, undef, undef, undef] ++ [undef, undef, undef, undef, undef, undef, undef, undef, undef]).toArray, []⟩) (by kernel_rfl) ?_
                refine wp_seq ?_
                refine lwp_list ?_
                refine ls_assign (x := (.int .i64 0)) (by kernel_rfl) (by kernel_rfl) ?_
                refine ls_nil ?_
                refine then_normal ?_
                refine fr_eq (b := ⟨([x0, x1, x2, x3, undef, undef, undef, undef, (.bool false), x9, x29, x11, x48, x53, x65, x66, undef, (.int .i64 0), x0, x19, x20, undef, x22, x2, (D 0), (D 1), (D 2), (D 3), x28, x29, x29, x31, x11, x0, x34, x35, (D_1 4), (D_1 5), (D_1 6), (D_1 7), (D_1 8), (D_1 9), (D_1 10), (D_1 11), (D_1 12), (D_1 13), x1, x47, x48, x48] ++ [x50, x51, x52, x53, x3, (D_2 0), (D_2 1), (D_2 2), (D_2 3), (D_2 4), (D_2 5), x64, x29, x53, x64, x65, x66, x3, undef, undef, undef, undef, undef, undef, undef, undef, undef, undef, undef, undef, undef, undef, undef, undef, undef, undef, undef, undef, undef, undef, undef, undef, undef, undef, undef, undef, undef, undef, undef, undef] ++ [undef, undef, undef, undef, undef, undef, undef, undef, undef]).toArray, []⟩) (by kernel_rfl) ?_
                refine wp_seq ?_
                refine wp_seq ?_
                refine lwp_list ?_
                refine ls_move (x := x2) (by kernel_rfl) (by kernel_rfl) ?_
                refine ls_nil ?_
                refine then_normal ?_
                refine fr_eq (b := ⟨([x0, x1, x2, x3, undef, undef, undef, undef, (.bool false), x9, x29, x11, x48, x53, x65, x66, undef, (.int .i64 0), x0, x19, x20, undef, x22, x2, (D 0), (D 1), (D 2), (D 3), x28, x29, x29, x31, x11, x0, x34, x35, (D_1 4), (D_1 5), (D_1 6), (D_1 7), (D_1 8), (D_1 9), (D_1 10), (D_1 11), (D_1 12), (D_1 13), x1, x47, x48, x48] ++ [x50, x51, x52, x53, x3, (D_2 0), (D_2 1), (D_2 2), (D_2 3), (D_2 4), (D_2 5), x64, x29, x53, x64, x65, x66, x3, undef, undef, undef, undef, undef, undef, undef, undef, undef, undef, undef, undef, undef, undef, undef, undef, undef, undef, undef, undef, undef, undef, undef, undef, x2, undef, undef, undef, undef, undef, undef, undef] ++ [undef, undef, undef, undef, undef, undef, undef, undef, undef]).toArray, []⟩) (by kernel_rfl) ?_
                refine wp_join (fun a w => ∃ (D_6 : Nat → Value) (x17 : Value) (h_13 : Heap), a = ⟨([x0, x1, x2, x3, undef, undef, undef, undef, (.bool false), x9, x29, x11, x48, x53, x65, x66, undef, x17, x0, x19, x20, undef, x22, x2, (D 0), (D 1), (D 2), (D 3), x28, x29, x29, x31, x11, x0, x34, x35, (D_1 4), (D_1 5), (D_1 6), (D_1 7), (D_1 8), (D_1 9), (D_1 10), (D_1 11), (D_1 12), (D_1 13), x1, x47, x48, x48] ++ [x50, x51, x52, x53, x3, (D_2 0), (D_2 1), (D_2 2), (D_2 3), (D_2 4), (D_2 5), x64, x29, x53, x64, x65, x66, x3, undef, undef, undef, undef, undef, undef, undef, undef, undef, undef, undef, undef, undef, undef, undef, undef, undef, undef, undef, undef, undef, undef, undef, undef, x2, (D_6 0), (D_6 1), undef, undef, undef, undef, undef] ++ [undef, undef, undef, undef, undef, undef, undef, undef, undef]).toArray, []⟩ ∧ At w0 w h_13 ∧ betonylaw18_LdiscSignals_j4 R x29 x48 x66 x17 h_13) ?_ ?_
                · refine wp_if rfl H (fun H => ?_) (fun H => ?_)
                  · refine lwp_list ?_
                    refine ls_move (x := x0) (by kernel_rfl) (by kernel_rfl) ?_
                    refine ls_p (d := some 94) (by kernel_rfl) (by kernel_rfl) (p_len Try.underlying30 (by kernel_rfl) H) (fun x94 H => ?_)
                    refine ls_assign (x := x94) (by kernel_rfl) (by kernel_rfl) ?_
                    refine ls_nil ?_
                    exact ⟨(fun i => ([x0, x94]).getD i undef), x94, h_9, by kernel_rfl, HA_9, H⟩
                  · refine wp_skip ?_
                    exact ⟨(fun i => ([undef, undef]).getD i undef), (.int .i64 0), h_9, by kernel_rfl, HA_9, H⟩
                · rintro _ w_15 ⟨D_6, x17, h_13, rfl, HA_15, H⟩
                  unfold betonylaw18_LdiscSignals_j4 at H
                  refine then_normal ?_
                  refine fr_eq (b := ⟨([x0, x1, x2, x3, undef, undef, undef, undef, (.bool false), x9, x29, x11, x48, x53, x65, x66, undef, x17, x0, x19, x20, undef, x22, x2, (D 0), (D 1), (D 2), (D 3), x28, x29, x29, x31, x11, x0, x34, x35, (D_1 4), (D_1 5), (D_1 6), (D_1 7), (D_1 8), (D_1 9), (D_1 10), (D_1 11), (D_1 12), (D_1 13), x1, x47, x48, x48] ++ [x50, x51, x52, x53, x3, (D_2 0), (D_2 1), (D_2 2), (D_2 3), (D_2 4), (D_2 5), x64, x29, x53, x64, x65, x66, x3, undef, undef, undef, undef, undef, undef, undef, undef, undef, undef, undef, undef, undef, undef, undef, undef, undef, undef, undef, undef, undef, undef, undef, undef, x2, (D_6 0), (D_6 1), undef, undef, undef, undef, undef] ++ [undef, undef, undef, undef, undef, undef, undef, undef, undef]).toArray, []⟩) (by kernel_rfl) ?_
                  refine wp_seq ?_
                  refine lwp_list ?_
                  refine ls_move (x := x66) (by kernel_rfl) (by kernel_rfl) ?_
                  refine ls_move (x := x48) (by kernel_rfl) (by kernel_rfl) ?_
                  refine ls_p (d := some 97) (by kernel_rfl) (by kernel_rfl) (p_add (by kernel_rfl) (by kernel_rfl) H) (fun x97 H => ?_)
                  refine ls_p (d := some 98) (by kernel_rfl) (by kernel_rfl) (p_sEq (by kernel_rfl) (by kernel_rfl) H) (fun x98 H => ?_)
                  refine ls_move (x := x98) (by kernel_rfl) (by kernel_rfl) ?_
                  refine ls_andh [(), (), (), (), (), ()] (fun K a w => ∃ (D_7 : Nat → Value) (x105 : Value) (h_14 : Heap), a = ⟨([x0, x1, x2, x3, undef, undef, undef, undef, (.bool false), x9, x29, x11, x48, x53, x65, x66, undef, x17, x0, x19, x20, undef, x22, x2, (D 0), (D 1), (D 2), (D 3), x28, x29, x29, x31, x11, x0, x34, x35, (D_1 4), (D_1 5), (D_1 6), (D_1 7), (D_1 8), (D_1 9), (D_1 10), (D_1 11), (D_1 12), (D_1 13), x1, x47, x48, x48] ++ [x50, x51, x52, x53, x3, (D_2 0), (D_2 1), (D_2 2), (D_2 3), (D_2 4), (D_2 5), x64, x29, x53, x64, x65, x66, x3, undef, undef, undef, undef, undef, undef, undef, undef, undef, undef, undef, undef, undef, undef, undef, undef, undef, undef, undef, undef, undef, undef, undef, undef, x2, (D_6 0), (D_6 1), x66, x48, x97, x98, x98] ++ [(D_7 0), (D_7 1), (D_7 2), (D_7 3), (D_7 4), x105, undef, undef, undef]).toArray, []⟩ ∧ At w0 w h_14 ∧ K x105 h_14) H (fun hb_4 H => ?_) (fun hb_4 H => ?_) ?_
                  · refine ls_move (x := x29) (by rw [hb_4]; kernel_rfl) (by kernel_rfl) ?_
                    refine ls_fr (b := ⟨([x0, x1, x2, x3, undef, undef, undef, undef, (.bool false), x9, x29, x11, x48, x53, x65, x66, undef, x17, x0, x19, x20, undef, x22, x2, (D 0), (D 1), (D 2), (D 3), x28, x29, x29, x31, x11, x0, x34, x35, (D_1 4), (D_1 5), (D_1 6), (D_1 7), (D_1 8), (D_1 9), (D_1 10), (D_1 11), (D_1 12), (D_1 13), x1, x47, x48, x48] ++ [x50, x51, x52, x53, x3, (D_2 0), (D_2 1), (D_2 2), (D_2 3), (D_2 4), (D_2 5), x64, x29, x53, x64, x65, x66, x3, undef, undef, undef, undef, undef, undef, undef, undef, undef, undef, undef, undef, undef, undef, undef, undef, undef, undef, undef, undef, undef, undef, undef, undef, x2, (D_6 0), (D_6 1), x66, x48, x97, x98, x98] ++ [x29, undef, undef, undef, undef, undef, undef, undef, undef]).toArray, []⟩) (by kernel_rfl) ?_
                    refine ls_d (d := some 101) (by kernel_rfl) (by rw [hb_4]; kernel_rfl) HA_15 (d_call (by kernel_rfl) (by kernel_rfl) H) (fun x101 h_17 w_19 H HA_19 => ?_)
                    refine ls_p (d := some 102) (by kernel_rfl) (by rw [hb_4]; kernel_rfl) (p_len Try.underlying30 (by kernel_rfl) H) (fun x102 H => ?_)
                    refine ls_move (x := x17) (by rw [hb_4]; kernel_rfl) (by kernel_rfl) ?_
                    refine ls_p (d := some 104) (by kernel_rfl) (by rw [hb_4]; kernel_rfl) (p_sEq (by kernel_rfl) (by kernel_rfl) H) (fun x104 H => ?_)
                    refine ls_pick_t (x := x104) (by kernel_rfl) (by rw [hb_4]; kernel_rfl) (by kernel_rfl) ?_
                    refine ls_nil ?_
                    refine then_normal ?_
                    exact ⟨(fun i => ([x29, x101, x102, x17, x104]).getD i undef), x104, h_17, by kernel_rfl, HA_19, H⟩
                  · refine ls_skip (d := some 100) (by kernel_rfl) (by rw [hb_4]; kernel_rfl) ?_
                    refine ls_fr (b := ⟨([x0, x1, x2, x3, undef, undef, undef, undef, (.bool false), x9, x29, x11, x48, x53, x65, x66, undef, x17, x0, x19, x20, undef, x22, x2, (D 0), (D 1), (D 2), (D 3), x28, x29, x29, x31, x11, x0, x34, x35, (D_1 4), (D_1 5), (D_1 6), (D_1 7), (D_1 8), (D_1 9), (D_1 10), (D_1 11), (D_1 12), (D_1 13), x1, x47, x48, x48] ++ [x50, x51, x52, x53, x3, (D_2 0), (D_2 1), (D_2 2), (D_2 3), (D_2 4), (D_2 5), x64, x29, x53, x64, x65, x66, x3, undef, undef, undef, undef, undef, undef, undef, undef, undef, undef, undef, undef, undef, undef, undef, undef, undef, undef, undef, undef, undef, undef, undef, undef, x2, (D_6 0), (D_6 1), x66, x48, x97, x98, x98] ++ [undef, undef, undef, undef, undef, undef, undef, undef, undef]).toArray, []⟩) (by kernel_rfl) ?_
                    refine ls_skip (d := some 101) (by kernel_rfl) (by rw [hb_4]; kernel_rfl) ?_
                    refine ls_skip (d := some 102) (by kernel_rfl) (by rw [hb_4]; kernel_rfl) ?_
                    refine ls_skip (d := some 103) (by kernel_rfl) (by rw [hb_4]; kernel_rfl) ?_
                    refine ls_skip (d := some 104) (by kernel_rfl) (by rw [hb_4]; kernel_rfl) ?_
                    refine ls_pick_f (y := (.bool false)) (by kernel_rfl) (by rw [hb_4]; kernel_rfl) (by kernel_rfl) ?_
                    refine ls_nil ?_
                    refine then_normal ?_
                    exact ⟨(fun i => ([undef, undef, undef, undef, undef]).getD i undef), (.bool false), h_13, by kernel_rfl, HA_15, H⟩
                  · rintro _ w_16 ⟨D_7, x105, h_14, rfl, HA_16, H⟩
                    refine ls_move (x := x105) (by kernel_rfl) (by kernel_rfl) ?_
                    refine ls_andh [(), ()] (fun K a w => ∃ (D_8 : Nat → Value) (x108 : Value) (h_15 : Heap), a = ⟨([x0, x1, x2, x3, undef, undef, undef, undef, (.bool false), x9, x29, x11, x48, x53, x65, x66, undef, x17, x0, x19, x20, undef, x22, x2, (D 0), (D 1), (D 2), (D 3), x28, x29, x29, x31, x11, x0, x34, x35, (D_1 4), (D_1 5), (D_1 6), (D_1 7), (D_1 8), (D_1 9), (D_1 10), (D_1 11), (D_1 12), (D_1 13), x1, x47, x48, x48] ++ [x50, x51, x52, x53, x3, (D_2 0), (D_2 1), (D_2 2), (D_2 3), (D_2 4), (D_2 5), x64, x29, x53, x64, x65, x66, x3, undef, undef, undef, undef, undef, undef, undef, undef, undef, undef, undef, undef, undef, undef, undef, undef, undef, undef, undef, undef, undef, undef, undef, undef, x2, (D_6 0), (D_6 1), x66, x48, x97, x98, x98] ++ [(D_7 0), (D_7 1), (D_7 2), (D_7 3), (D_7 4), x105, x105, (D_8 0), x108]).toArray, []⟩ ∧ At w0 w h_15 ∧ K x108 h_15) H (fun hb_3 H => ?_) (fun hb_3 H => ?_) ?_
                    · refine ls_d (d := some 107) (by kernel_rfl) (by rw [hb_3]; kernel_rfl) HA_16 (d_call (by kernel_rfl) (by kernel_rfl) H) (fun x107 h_16 w_18 H HA_18 => ?_)
                      refine ls_pick_t (x := x107) (by kernel_rfl) (by rw [hb_3]; kernel_rfl) (by kernel_rfl) ?_
                      refine ls_nil ?_
                      refine then_normal ?_
                      exact ⟨(fun i => ([x107]).getD i undef), x107, h_16, by kernel_rfl, HA_18, H⟩
                    · refine ls_skip (d := some 107) (by kernel_rfl) (by rw [hb_3]; kernel_rfl) ?_
                      refine ls_pick_f (y := (.bool false)) (by kernel_rfl) (by rw [hb_3]; kernel_rfl) (by kernel_rfl) ?_
                      refine ls_nil ?_
                      refine then_normal ?_
                      exact ⟨(fun i => ([undef]).getD i undef), (.bool false), h_14, by kernel_rfl, HA_16, H⟩
                    · rintro _ w_17 ⟨D_8, x108, h_15, rfl, HA_17, H⟩
                      refine ls_assign (x := x108) (by kernel_rfl) (by kernel_rfl) ?_
                      refine ls_nil ?_
                      refine then_normal ?_
                      refine fr_eq (b := ⟨([x0, x1, x2, x3, undef, undef, undef, undef, x108, x9, x29, x11, x48, x53, x65, x66, undef, x17, x0, x19, x20, undef, x22, x2, (D 0), (D 1), (D 2), (D 3), x28, x29, x29, x31, x11, x0, x34, x35, (D_1 4), (D_1 5), (D_1 6), (D_1 7), (D_1 8), (D_1 9), (D_1 10), (D_1 11), (D_1 12), (D_1 13), x1, x47, x48, x48] ++ [x50, x51, x52, x53, x3, (D_2 0), (D_2 1), (D_2 2), (D_2 3), (D_2 4), (D_2 5), x64, x29, x53, x64, x65, x66, x3, undef, undef, undef, undef, undef, undef, undef, undef, undef, undef, undef, undef, undef, undef, undef, undef, undef, undef, undef, undef, undef, undef, undef, undef, x2, (D_6 0), (D_6 1), x66, x48, x97, x98, x98] ++ [(D_7 0), (D_7 1), (D_7 2), (D_7 3), (D_7 4), x105, x105, (D_8 0), x108]).toArray, []⟩) (by kernel_rfl) ?_
                      refine wp_ret ?_
                      exact end1 (Try.results5) (by kernel_rfl) (by kernel_rfl) HA_17 H _ (.inr rfl)

end Go.Proofs.Ytlcklnbgknhhkaa
