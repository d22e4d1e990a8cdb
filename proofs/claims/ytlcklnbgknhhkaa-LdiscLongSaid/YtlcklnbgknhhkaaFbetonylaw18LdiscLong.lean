/- The shallow reading of one function, and that the function does it. Written by a program. -/
import Derived.Test.YtlcklnbgknhhkaaFnC
set_option linter.unusedVariables false
namespace Go.Proofs.Ytlcklnbgknhhkaa
open Go Go.HW

def betonylaw18_LdiscLong_j4 (next1 : Value → Value → Heap → Prop) (x13 x11_2 : Value) (h_8 : Heap) : Prop :=
  sAdd .i64 x13 (.int .i64 1) fun x41 =>
  next1 x11_2 x41 h_8
def betonylaw18_LdiscLong_j5 (R : Value → Heap → Prop) (next : Value → Value → Heap → Prop) (x28 x11_1 x12 : Value) (h_10 : Heap) : Prop :=
  ldisc_Disc_Line_c x28 h_10 fun x63 h_11 => 
  sLen x63 fun x64 =>
  sGt x64 (.int .i64 254) fun x65 =>
  sOrH x65 h_11 (fun k_1 =>
  ldisc_Disc_Ready_c x28 h_11 fun x68 h_13 => 
  sGt x68 (.int .i64 1024) fun x69 =>
  k_1 x69 h_13) fun x70 h_12 =>
  sIf x70 (R (.bool false) h_12) (sAdd .i64 x12 (.int .i64 1) fun x37 =>
  next x11_1 x37 h_12)
def betonylaw18_LdiscLong_l3 (R : Value → Heap → Prop) (next : Value → Value → Heap → Prop) (x0 x2 x28 x12 : Value) (next1 : Value → Value → Heap → Prop) (x11_1 x13 : Value) (h_7 : Heap) : Prop :=
  sLt x13 (.int .i64 300) fun x39 =>
  sIf x39 (ldisc_Disc_Input_c x28 x0 h_7 fun x45 h_9 => 
  sTup x45 0 fun x46 =>
  sTup x45 1 fun x47 =>
  sLen x46 fun x49 =>
  sEq x49 (.int .i64 1) fun x50 =>
  sAnd x50 (fun k =>
  sIxS x46 (.int .i64 0) 1 fun x53 =>
  sLd h_9 x53 fun x54 =>
  sEq x54 (.int .u8 7) fun x55 =>
  k x55) fun x56 =>
  sIf x56 (sAdd .i64 x11_1 (.int .i64 1) fun x58 =>
  betonylaw18_LdiscLong_j4 next1 x13 x58 h_9) (betonylaw18_LdiscLong_j4 next1 x13 x11_1 h_9)) (sIf x2 (ldisc_Disc_Input_c x28 (.int .u8 10) h_7 fun x61 h_14 => 
  betonylaw18_LdiscLong_j5 R next x28 x11_1 x12 h_14) (betonylaw18_LdiscLong_j5 R next x28 x11_1 x12 h_7))
def betonylaw18_LdiscLong_l2 (R : Value → Heap → Prop) (x0 x1 x2 x3 x28 : Value) (next : Value → Value → Heap → Prop) (x11 x12 : Value) (h_6 : Heap) : Prop :=
  sConv .i64 x1 fun x33 =>
  sRem .i64 x33 (.int .i64 20) fun x34 =>
  sLt x12 x34 fun x35 =>
  sIf x35 (sLoop (S := Value × Value) (fun nxt s h => betonylaw18_LdiscLong_l3 R next x0 x2 x28 x12 (fun x11_1' x13' h => nxt (x11_1', x13') h) s.1 s.2 h) (x11, (.int .i64 0)) h_6) (sNot x3 fun x72 =>
  sIf x72 (ldisc_Disc_Ready_c x28 h_6 fun x74 h_15 => 
  sConv .i64 x1 fun x76 =>
  sRem .i64 x76 (.int .i64 20) fun x77 =>
  sMul .i64 x77 (.int .i64 300) fun x78 =>
  sConv .i64 x1 fun x80 =>
  sRem .i64 x80 (.int .i64 20) fun x81 =>
  betonylaw18_one_c x2 h_15 fun x83 h_16 => 
  sMul .i64 x81 x83 fun x84 =>
  sAdd .i64 x78 x84 fun x85 =>
  sMin (.int .i64 1024) x85 fun x86 =>
  sEq x74 x86 fun x87 =>
  sAndH x87 h_16 (fun k_2 =>
  betonylaw18_awake_c  h_16 fun x89 h_18 => 
  k_2 x89 h_18) fun x90 h_17 =>
  R x90 h_17) (sConv .i64 x1 fun x92 =>
  sRem .i64 x92 (.int .i64 20) fun x93 =>
  sEq x93 (.int .i64 0) fun x94 =>
  sOr x94 (fun k_4 =>
  sGt x11 (.int .i64 0) fun x97 =>
  k_4 x97) fun x98 =>
  sAndH x98 h_6 (fun k_3 =>
  betonylaw18_awake_c  h_6 fun x100 h_20 => 
  k_3 x100 h_20) fun x101 h_19 =>
  R x101 h_19))
def betonylaw18_LdiscLong_j1 (R : Value → Heap → Prop) (x0 x1 x2 x3 x9 : Value) (h_4 : Heap) : Prop :=
  sLdN h_4 x9 17 fun x27 =>
  ldisc_New_c x27 h_4 fun x28 h_5 => 
  sEqlNil x28 fun x30 =>
  sIf x30 (R (.bool false) h_5) (sLoop (S := Value × Value) (fun nxt s h => betonylaw18_LdiscLong_l2 R x0 x1 x2 x3 x28 (fun x11' x12' h => nxt (x11', x12') h) s.1 s.2 h) ((.int .i64 0), (.int .i64 0)) h_5)
def betonylaw18_LdiscLong_S (x0 x1 x2 x3 : Value) (h : Heap) (R : Value → Heap → Prop) : Prop :=
  sLt x0 (.int .u8 97) fun x17 =>
  sOr x17 (fun k_5 =>
  sGt x0 (.int .u8 122) fun x20 =>
  k_5 x20) fun x21 =>
  sIf x21 (betonylaw18_awake_c  h fun x22 h => 
  R x22 h) (betonyref17_Plain_c  h fun x23 h_1 => 
  sNew h_1 #[.int .i64 0, .int .i64 0, .int .i64 0, .int .i64 0, .int .i64 0, .int .i64 0, .int .i64 0, .int .i64 0, .int .i64 0, .int .i64 0, .int .i64 0, .int .i64 0, .int .i64 0, .int .i64 0, .int .i64 0, .int .i64 0, .int .i64 0] 28 fun x9 h_2 => 
  sStN h_2 x9 x23 17 fun h_3 => 
  sNot x3 fun x25 =>
  sIf x25 (sOff x9 2 fun x26 =>
  sSt h_3 x26 (.int .i64 0) fun h_21 => 
  betonylaw18_LdiscLong_j1 R x0 x1 x2 x3 x9 h_21) (betonylaw18_LdiscLong_j1 R x0 x1 x2 x3 x9 h_3))
set_option maxHeartbeats 4000000 in
set_option maxRecDepth 100000 in
theorem betonylaw18_LdiscLong_runs {x0 x1 x2 x3 : Value} {h : Heap} {R : Value → Heap → Prop} (H : betonylaw18_LdiscLong_S x0 x1 x2 x3 h R) : betonylaw18_LdiscLong_c x0 x1 x2 x3 h R := by
  unfold betonylaw18_LdiscLong_S at H
  refine runs_of (b := ⟨([x0, x1, x2, x3, undef, undef, undef, undef, undef, undef, undef, undef, undef, undef, undef, undef, undef, undef, undef, undef, undef, undef, undef, undef, undef, undef, undef, undef, undef, undef, undef, undef, undef, undef, undef, undef, undef, undef, undef, undef, undef, undef, undef, undef, undef, undef, undef, undef, undef, undef] ++ [undef, undef, undef, undef, undef, undef, undef, undef, undef, undef, undef, undef, undef, undef, undef, undef, undef, undef, undef, undef, undef, undef, undef, undef, undef, undef, undef, undef, undef, undef, undef, undef, undef, undef, undef, undef, undef, undef, undef, undef, undef, undef, undef, undef, undef, undef, undef, undef, undef, undef] ++ [undef, undef]).toArray, []⟩) Try.call4 Try.func4 rfl (by kernel_rfl) (fun w0 HA => ?_)
  refine wp_seq ?_
  refine lwp_list ?_
  refine ls_assign (x := (.bool false)) (by kernel_rfl) (by kernel_rfl) ?_
  refine ls_nil ?_
  refine then_normal ?_
  refine fr_eq (b := ⟨([x0, x1, x2, x3, undef, undef, undef, undef, (.bool false), undef, undef, undef, undef, undef, undef, undef, undef, undef, undef, undef, undef, undef, undef, undef, undef, undef, undef, undef, undef, undef, undef, undef, undef, undef, undef, undef, undef, undef, undef, undef, undef, undef, undef, undef, undef, undef, undef, undef, undef, undef] ++ [undef, undef, undef, undef, undef, undef, undef, undef, undef, undef, undef, undef, undef, undef, undef, undef, undef, undef, undef, undef, undef, undef, undef, undef, undef, undef, undef, undef, undef, undef, undef, undef, undef, undef, undef, undef, undef, undef, undef, undef, undef, undef, undef, undef, undef, undef, undef, undef, undef, undef] ++ [undef, undef]).toArray, []⟩) (by kernel_rfl) ?_
  refine wp_seq ?_
  refine wp_seq ?_
  refine lwp_list ?_
  refine ls_move (x := x0) (by kernel_rfl) (by kernel_rfl) ?_
  refine ls_p (d := some 17) (by kernel_rfl) (by kernel_rfl) (p_sLt (by kernel_rfl) (by kernel_rfl) H) (fun x17 H => ?_)
  refine ls_move (x := x17) (by kernel_rfl) (by kernel_rfl) ?_
  refine ls_or [(), (), ()] (fun K a w => ∃ (D : Nat → Value) (x21 : Value), a = ⟨([x0, x1, x2, x3, undef, undef, undef, undef, (.bool false), undef, undef, undef, undef, undef, undef, undef, x0, x17, x17, (D 0), (D 1), x21, undef, undef, undef, undef, undef, undef, undef, undef, undef, undef, undef, undef, undef, undef, undef, undef, undef, undef, undef, undef, undef, undef, undef, undef, undef, undef, undef, undef] ++ [undef, undef, undef, undef, undef, undef, undef, undef, undef, undef, undef, undef, undef, undef, undef, undef, undef, undef, undef, undef, undef, undef, undef, undef, undef, undef, undef, undef, undef, undef, undef, undef, undef, undef, undef, undef, undef, undef, undef, undef, undef, undef, undef, undef, undef, undef, undef, undef, undef, undef] ++ [undef, undef]).toArray, []⟩ ∧ At w0 w h ∧ K x21) H (fun hb_5 H => ?_) (fun hb_5 H => ?_) ?_
  · refine ls_move (x := x0) (by rw [hb_5]; kernel_rfl) (by kernel_rfl) ?_
    refine ls_p (d := some 20) (by kernel_rfl) (by rw [hb_5]; kernel_rfl) (p_sGt (by kernel_rfl) (by kernel_rfl) H) (fun x20 H => ?_)
    refine ls_pick_f (y := x20) (by kernel_rfl) (by rw [hb_5]; kernel_rfl) (by kernel_rfl) ?_
    refine ls_nil ?_
    refine then_normal ?_
    exact ⟨(fun i => ([x0, x20]).getD i undef), x20, by kernel_rfl, HA, H⟩
  · refine ls_skip (d := some 19) (by kernel_rfl) (by rw [hb_5]; kernel_rfl) ?_
    refine ls_skip (d := some 20) (by kernel_rfl) (by rw [hb_5]; kernel_rfl) ?_
    refine ls_pick_t (x := (.bool true)) (by kernel_rfl) (by rw [hb_5]; kernel_rfl) (by kernel_rfl) ?_
    refine ls_nil ?_
    refine then_normal ?_
    exact ⟨(fun i => ([undef, undef]).getD i undef), (.bool true), by kernel_rfl, HA, H⟩
  · rintro _ w ⟨D, x21, rfl, HA, H⟩
    refine ls_nil ?_
    refine then_normal ?_
    refine fr_eq (b := ⟨([x0, x1, x2, x3, undef, undef, undef, undef, (.bool false), undef, undef, undef, undef, undef, undef, undef, x0, x17, x17, (D 0), (D 1), x21, undef, undef, undef, undef, undef, undef, undef, undef, undef, undef, undef, undef, undef, undef, undef, undef, undef, undef, undef, undef, undef, undef, undef, undef, undef, undef, undef, undef] ++ [undef, undef, undef, undef, undef, undef, undef, undef, undef, undef, undef, undef, undef, undef, undef, undef, undef, undef, undef, undef, undef, undef, undef, undef, undef, undef, undef, undef, undef, undef, undef, undef, undef, undef, undef, undef, undef, undef, undef, undef, undef, undef, undef, undef, undef, undef, undef, undef, undef, undef] ++ [undef, undef]).toArray, []⟩) (by kernel_rfl) ?_
    refine wp_if rfl H (fun H => ?_) (fun H => ?_)
    · refine wp_seq ?_
      refine lwp_list ?_
      refine ls_d (d := some 22) (by kernel_rfl) (by kernel_rfl) HA (d_call (by kernel_rfl) (by kernel_rfl) H) (fun x22 h w_1 H HA_1 => ?_)
      refine ls_assign (x := x22) (by kernel_rfl) (by kernel_rfl) ?_
      refine ls_nil ?_
      refine then_normal ?_
      refine fr_eq (b := ⟨([x0, x1, x2, x3, undef, undef, undef, undef, x22, undef, undef, undef, undef, undef, undef, undef, x0, x17, x17, (D 0), (D 1), x21, x22, undef, undef, undef, undef, undef, undef, undef, undef, undef, undef, undef, undef, undef, undef, undef, undef, undef, undef, undef, undef, undef, undef, undef, undef, undef, undef, undef] ++ [undef, undef, undef, undef, undef, undef, undef, undef, undef, undef, undef, undef, undef, undef, undef, undef, undef, undef, undef, undef, undef, undef, undef, undef, undef, undef, undef, undef, undef, undef, undef, undef, undef, undef, undef, undef, undef, undef, undef, undef, undef, undef, undef, undef, undef, undef, undef, undef, undef, undef] ++ [undef, undef]).toArray, []⟩) (by kernel_rfl) ?_
      refine wp_ret ?_
      refine then_ret ?_
      exact end1 (Try.results4) (by kernel_rfl) (by kernel_rfl) HA_1 H _ (.inr rfl)
    · refine wp_skip ?_
      refine then_normal ?_
      refine fr_eq (b := ⟨([x0, x1, x2, x3, undef, undef, undef, undef, (.bool false), undef, undef, undef, undef, undef, undef, undef, x0, x17, x17, (D 0), (D 1), x21, undef, undef, undef, undef, undef, undef, undef, undef, undef, undef, undef, undef, undef, undef, undef, undef, undef, undef, undef, undef, undef, undef, undef, undef, undef, undef, undef, undef] ++ [undef, undef, undef, undef, undef, undef, undef, undef, undef, undef, undef, undef, undef, undef, undef, undef, undef, undef, undef, undef, undef, undef, undef, undef, undef, undef, undef, undef, undef, undef, undef, undef, undef, undef, undef, undef, undef, undef, undef, undef, undef, undef, undef, undef, undef, undef, undef, undef, undef, undef] ++ [undef, undef]).toArray, []⟩) (by kernel_rfl) ?_
      refine wp_seq ?_
      refine lwp_list ?_
      refine ls_d (d := some 23) (by kernel_rfl) (by kernel_rfl) HA (d_call (by kernel_rfl) (by kernel_rfl) H) (fun x23 h_1 w_2 H HA_2 => ?_)
      refine ls_d (d := some 9) (by kernel_rfl) (by kernel_rfl) HA_2 (d_alloc Try.zeroValue28 H) (fun x9 h_2 w_3 H HA_3 => ?_)
      refine ls_d (d := none) (by kernel_rfl) (by kernel_rfl) HA_3 (d_stn Try.sizeOf28 (by kernel_rfl) (by kernel_rfl) H) (fun _ h_3 w_4 H HA_4 => ?_)
      refine ls_nil ?_
      refine then_normal ?_
      refine fr_eq (b := ⟨([x0, x1, x2, x3, undef, undef, undef, undef, (.bool false), x9, undef, undef, undef, undef, undef, undef, x0, x17, x17, (D 0), (D 1), x21, undef, x23, undef, undef, undef, undef, undef, undef, undef, undef, undef, undef, undef, undef, undef, undef, undef, undef, undef, undef, undef, undef, undef, undef, undef, undef, undef, undef] ++ [undef, undef, undef, undef, undef, undef, undef, undef, undef, undef, undef, undef, undef, undef, undef, undef, undef, undef, undef, undef, undef, undef, undef, undef, undef, undef, undef, undef, undef, undef, undef, undef, undef, undef, undef, undef, undef, undef, undef, undef, undef, undef, undef, undef, undef, undef, undef, undef, undef, undef] ++ [undef, undef]).toArray, []⟩) (by kernel_rfl) ?_
      refine wp_seq ?_
      refine wp_seq ?_
      refine lwp_list ?_
      refine ls_move (x := x3) (by kernel_rfl) (by kernel_rfl) ?_
      refine ls_p (d := some 25) (by kernel_rfl) (by kernel_rfl) (p_not (by kernel_rfl) H) (fun x25 H => ?_)
      refine ls_nil ?_
      refine then_normal ?_
      refine fr_eq (b := ⟨([x0, x1, x2, x3, undef, undef, undef, undef, (.bool false), x9, undef, undef, undef, undef, undef, undef, x0, x17, x17, (D 0), (D 1), x21, undef, x23, x3, x25, undef, undef, undef, undef, undef, undef, undef, undef, undef, undef, undef, undef, undef, undef, undef, undef, undef, undef, undef, undef, undef, undef, undef, undef] ++ [undef, undef, undef, undef, undef, undef, undef, undef, undef, undef, undef, undef, undef, undef, undef, undef, undef, undef, undef, undef, undef, undef, undef, undef, undef, undef, undef, undef, undef, undef, undef, undef, undef, undef, undef, undef, undef, undef, undef, undef, undef, undef, undef, undef, undef, undef, undef, undef, undef, undef] ++ [undef, undef]).toArray, []⟩) (by kernel_rfl) ?_
      refine wp_join (fun a w => ∃ (D_1 : Nat → Value) (h_4 : Heap), a = ⟨([x0, x1, x2, x3, undef, undef, undef, undef, (.bool false), x9, undef, undef, undef, undef, undef, undef, x0, x17, x17, (D 0), (D 1), x21, undef, x23, x3, x25, (D_1 0), undef, undef, undef, undef, undef, undef, undef, undef, undef, undef, undef, undef, undef, undef, undef, undef, undef, undef, undef, undef, undef, undef, undef] ++ [undef, undef, undef, undef, undef, undef, undef, undef, undef, undef, undef, undef, undef, undef, undef, undef, undef, undef, undef, undef, undef, undef, undef, undef, undef, undef, undef, undef, undef, undef, undef, undef, undef, undef, undef, undef, undef, undef, undef, undef, undef, undef, undef, undef, undef, undef, undef, undef, undef, undef] ++ [undef, undef]).toArray, []⟩ ∧ At w0 w h_4 ∧ betonylaw18_LdiscLong_j1 R x0 x1 x2 x3 x9 h_4) ?_ ?_
      · refine wp_if rfl H (fun H => ?_) (fun H => ?_)
        · refine lwp_list ?_
          refine ls_p (d := some 26) (by kernel_rfl) (by kernel_rfl) (p_off Try.underlying28 rfl (fun w => ⟨_, Try.sizeOf3 w⟩) rfl (by kernel_rfl) H) (fun x26 H => ?_)
          refine ls_d (d := none) (by kernel_rfl) (by kernel_rfl) HA_4 (d_st Try.sizeOf3 (by kernel_rfl) (by kernel_rfl) H) (fun _ h_21 w_24 H HA_24 => ?_)
          refine ls_nil ?_
          exact ⟨(fun i => ([x26]).getD i undef), h_21, by kernel_rfl, HA_24, H⟩
        · refine wp_skip ?_
          exact ⟨(fun i => ([undef]).getD i undef), h_3, by kernel_rfl, HA_4, H⟩
      · rintro _ w_5 ⟨D_1, h_4, rfl, HA_5, H⟩
        unfold betonylaw18_LdiscLong_j1 at H
        refine then_normal ?_
        refine fr_eq (b := ⟨([x0, x1, x2, x3, undef, undef, undef, undef, (.bool false), x9, undef, undef, undef, undef, undef, undef, x0, x17, x17, (D 0), (D 1), x21, undef, x23, x3, x25, (D_1 0), undef, undef, undef, undef, undef, undef, undef, undef, undef, undef, undef, undef, undef, undef, undef, undef, undef, undef, undef, undef, undef, undef, undef] ++ [undef, undef, undef, undef, undef, undef, undef, undef, undef, undef, undef, undef, undef, undef, undef, undef, undef, undef, undef, undef, undef, undef, undef, undef, undef, undef, undef, undef, undef, undef, undef, undef, undef, undef, undef, undef, undef, undef, undef, undef, undef, undef, undef, undef, undef, undef, undef, undef, undef, undef] ++ [undef, undef]).toArray, []⟩) (by kernel_rfl) ?_
        refine wp_seq ?_
        refine lwp_list ?_
        refine ls_y (d := some 27) (by kernel_rfl) (by kernel_rfl) HA_5 (y_ldn Try.isAgg28 Try.sizeOf28 (by kernel_rfl) H) (fun x27 H => ?_)
        refine ls_d (d := some 28) (by kernel_rfl) (by kernel_rfl) HA_5 (d_call (by kernel_rfl) (by kernel_rfl) H) (fun x28 h_5 w_6 H HA_6 => ?_)
        refine ls_assign (x := x28) (by kernel_rfl) (by kernel_rfl) ?_
        refine ls_nil ?_
        refine then_normal ?_
        refine fr_eq (b := ⟨([x0, x1, x2, x3, undef, undef, undef, undef, (.bool false), x9, x28, undef, undef, undef, undef, undef, x0, x17, x17, (D 0), (D 1), x21, undef, x23, x3, x25, (D_1 0), x27, x28, undef, undef, undef, undef, undef, undef, undef, undef, undef, undef, undef, undef, undef, undef, undef, undef, undef, undef, undef, undef, undef] ++ [undef, undef, undef, undef, undef, undef, undef, undef, undef, undef, undef, undef, undef, undef, undef, undef, undef, undef, undef, undef, undef, undef, undef, undef, undef, undef, undef, undef, undef, undef, undef, undef, undef, undef, undef, undef, undef, undef, undef, undef, undef, undef, undef, undef, undef, undef, undef, undef, undef, undef] ++ [undef, undef]).toArray, []⟩) (by kernel_rfl) ?_
        refine wp_seq ?_
        refine wp_seq ?_
        refine lwp_list ?_
        refine ls_move (x := x28) (by kernel_rfl) (by kernel_rfl) ?_
        refine ls_p (d := some 30) (by kernel_rfl) (by kernel_rfl) (p_eqlNil Try.underlying24 (by kernel_rfl) (by kernel_rfl) H) (fun x30 H => ?_)
        refine ls_nil ?_
        refine then_normal ?_
        refine fr_eq (b := ⟨([x0, x1, x2, x3, undef, undef, undef, undef, (.bool false), x9, x28, undef, undef, undef, undef, undef, x0, x17, x17, (D 0), (D 1), x21, undef, x23, x3, x25, (D_1 0), x27, x28, x28, x30, undef, undef, undef, undef, undef, undef, undef, undef, undef, undef, undef, undef, undef, undef, undef, undef, undef, undef, undef] ++ [undef, undef, undef, undef, undef, undef, undef, undef, undef, undef, undef, undef, undef, undef, undef, undef, undef, undef, undef, undef, undef, undef, undef, undef, undef, undef, undef, undef, undef, undef, undef, undef, undef, undef, undef, undef, undef, undef, undef, undef, undef, undef, undef, undef, undef, undef, undef, undef, undef, undef] ++ [undef, undef]).toArray, []⟩) (by kernel_rfl) ?_
        refine wp_if rfl H (fun H => ?_) (fun H => ?_)
        · refine wp_seq ?_
          refine lwp_list ?_
          refine ls_assign (x := (.bool false)) (by kernel_rfl) (by kernel_rfl) ?_
          refine ls_nil ?_
          refine then_normal ?_
          refine fr_eq (b := ⟨([x0, x1, x2, x3, undef, undef, undef, undef, (.bool false), x9, x28, undef, undef, undef, undef, undef, x0, x17, x17, (D 0), (D 1), x21, undef, x23, x3, x25, (D_1 0), x27, x28, x28, x30, undef, undef, undef, undef, undef, undef, undef, undef, undef, undef, undef, undef, undef, undef, undef, undef, undef, undef, undef] ++ [undef, undef, undef, undef, undef, undef, undef, undef, undef, undef, undef, undef, undef, undef, undef, undef, undef, undef, undef, undef, undef, undef, undef, undef, undef, undef, undef, undef, undef, undef, undef, undef, undef, undef, undef, undef, undef, undef, undef, undef, undef, undef, undef, undef, undef, undef, undef, undef, undef, undef] ++ [undef, undef]).toArray, []⟩) (by kernel_rfl) ?_
          refine wp_ret ?_
          refine then_ret ?_
          exact end1 (Try.results4) (by kernel_rfl) (by kernel_rfl) HA_6 H _ (.inr rfl)
        · refine wp_skip ?_
          refine then_normal ?_
          refine fr_eq (b := ⟨([x0, x1, x2, x3, undef, undef, undef, undef, (.bool false), x9, x28, undef, undef, undef, undef, undef, x0, x17, x17, (D 0), (D 1), x21, undef, x23, x3, x25, (D_1 0), x27, x28, x28, x30, undef, undef, undef, undef, undef, undef, undef, undef, undef, undef, undef, undef, undef, undef, undef, undef, undef, undef, undef] ++ [undef, undef, undef, undef, undef, undef, undef, undef, undef, undef, undef, undef, undef, undef, undef, undef, undef, undef, undef, undef, undef, undef, undef, undef, undef, undef, undef, undef, undef, undef, undef, undef, undef, undef, undef, undef, undef, undef, undef, undef, undef, undef, undef, undef, undef, undef, undef, undef, undef, undef] ++ [undef, undef]).toArray, []⟩) (by kernel_rfl) ?_
          refine wp_seq ?_
          refine lwp_list ?_
          refine ls_assign (x := (.int .i64 0)) (by kernel_rfl) (by kernel_rfl) ?_
          refine ls_nil ?_
          refine then_normal ?_
          refine fr_eq (b := ⟨([x0, x1, x2, x3, undef, undef, undef, undef, (.bool false), x9, x28, (.int .i64 0), undef, undef, undef, undef, x0, x17, x17, (D 0), (D 1), x21, undef, x23, x3, x25, (D_1 0), x27, x28, x28, x30, undef, undef, undef, undef, undef, undef, undef, undef, undef, undef, undef, undef, undef, undef, undef, undef, undef, undef, undef] ++ [undef, undef, undef, undef, undef, undef, undef, undef, undef, undef, undef, undef, undef, undef, undef, undef, undef, undef, undef, undef, undef, undef, undef, undef, undef, undef, undef, undef, undef, undef, undef, undef, undef, undef, undef, undef, undef, undef, undef, undef, undef, undef, undef, undef, undef, undef, undef, undef, undef, undef] ++ [undef, undef]).toArray, []⟩) (by kernel_rfl) ?_
          refine wp_seq ?_
          refine wp_seq ?_
          refine lwp_list ?_
          refine ls_assign (x := (.int .i64 0)) (by kernel_rfl) (by kernel_rfl) ?_
          refine ls_nil ?_
          refine then_normal ?_
          refine fr_eq (b := ⟨([x0, x1, x2, x3, undef, undef, undef, undef, (.bool false), x9, x28, (.int .i64 0), (.int .i64 0), undef, undef, undef, x0, x17, x17, (D 0), (D 1), x21, undef, x23, x3, x25, (D_1 0), x27, x28, x28, x30, undef, undef, undef, undef, undef, undef, undef, undef, undef, undef, undef, undef, undef, undef, undef, undef, undef, undef, undef] ++ [undef, undef, undef, undef, undef, undef, undef, undef, undef, undef, undef, undef, undef, undef, undef, undef, undef, undef, undef, undef, undef, undef, undef, undef, undef, undef, undef, undef, undef, undef, undef, undef, undef, undef, undef, undef, undef, undef, undef, undef, undef, undef, undef, undef, undef, undef, undef, undef, undef, undef] ++ [undef, undef]).toArray, []⟩) (by kernel_rfl) ?_
          refine wp_block ?_
          obtain ⟨I, m, H0, HB⟩ := H
          refine wp_loop (fun a w => ∃ (D_2 : Nat → Value) (x11 x12 : Value) (h_6 : Heap), a = ⟨([x0, x1, x2, x3, undef, undef, undef, undef, (D_2 0), x9, x28, x11, x12, (D_2 1), (D_2 2), (D_2 3), x0, x17, x17, (D 0), (D 1), x21, undef, x23, x3, x25, (D_1 0), x27, x28, x28, x30, (D_2 4), (D_2 5), (D_2 6), (D_2 7), (D_2 8), (D_2 9), (D_2 10), (D_2 11), (D_2 12), (D_2 13), (D_2 14), (D_2 15), (D_2 16), (D_2 17), (D_2 18), (D_2 19), (D_2 20), (D_2 21), (D_2 22)] ++ [(D_2 23), (D_2 24), (D_2 25), (D_2 26), (D_2 27), (D_2 28), (D_2 29), (D_2 30), (D_2 31), (D_2 32), (D_2 33), (D_2 34), (D_2 35), (D_2 36), (D_2 37), (D_2 38), (D_2 39), (D_2 40), (D_2 41), (D_2 42), (D_2 43), undef, undef, undef, undef, undef, undef, undef, undef, undef, undef, undef, undef, undef, undef, undef, undef, undef, undef, undef, undef, undef, undef, undef, undef, undef, undef, undef, undef, undef] ++ [undef, undef]).toArray, []⟩ ∧ At w0 w h_6 ∧ I (x11, x12) h_6) (fun a w => m ((a.tmps.getD 11 undef), (a.tmps.getD 12 undef)) w.heap) ?_ ?_
          · exact ⟨(fun i => ([(.bool false), undef, undef, undef, undef, undef, undef, undef, undef, undef, undef, undef, undef, undef, undef, undef, undef, undef, undef, undef, undef, undef, undef, undef, undef, undef, undef, undef, undef, undef, undef, undef, undef, undef, undef, undef, undef, undef, undef, undef, undef, undef, undef, undef]).getD i undef), (.int .i64 0), (.int .i64 0), h_5, by kernel_rfl, HA_6, H0⟩
          · rintro _ w_7 ⟨D_2, x11, x12, h_6, rfl, HA_7, HI⟩
            have H : betonylaw18_LdiscLong_l2 R x0 x1 x2 x3 x28 (fun x11' x12' h' => I (x11', x12') h' ∧ m (x11', x12') h' < m (x11, x12) h_6) x11 x12 h_6 := HB (x11, x12) h_6 HI
            clear HB H0 HI
            unfold betonylaw18_LdiscLong_l2 at H
            refine wp_seq ?_
            refine wp_seq ?_
            refine lwp_list ?_
            refine ls_move (x := x12) (by kernel_rfl) (by kernel_rfl) ?_
            refine ls_move (x := x1) (by kernel_rfl) (by kernel_rfl) ?_
            refine ls_p (d := some 33) (by kernel_rfl) (by kernel_rfl) (p_conv Try.underlying5 Try.underlying3 (by kernel_rfl) H) (fun x33 H => ?_)
            refine ls_p (d := some 34) (by kernel_rfl) (by kernel_rfl) (p_rem (by kernel_rfl) (by kernel_rfl) H) (fun x34 H => ?_)
            refine ls_p (d := some 35) (by kernel_rfl) (by kernel_rfl) (p_sLt (by kernel_rfl) (by kernel_rfl) H) (fun x35 H => ?_)
            refine ls_nil ?_
            refine then_normal ?_
            refine fr_eq (b := ⟨([x0, x1, x2, x3, undef, undef, undef, undef, (D_2 0), x9, x28, x11, x12, (D_2 1), (D_2 2), (D_2 3), x0, x17, x17, (D 0), (D 1), x21, undef, x23, x3, x25, (D_1 0), x27, x28, x28, x30, x12, x1, x33, x34, x35, (D_2 9), (D_2 10), (D_2 11), (D_2 12), (D_2 13), (D_2 14), (D_2 15), (D_2 16), (D_2 17), (D_2 18), (D_2 19), (D_2 20), (D_2 21), (D_2 22)] ++ [(D_2 23), (D_2 24), (D_2 25), (D_2 26), (D_2 27), (D_2 28), (D_2 29), (D_2 30), (D_2 31), (D_2 32), (D_2 33), (D_2 34), (D_2 35), (D_2 36), (D_2 37), (D_2 38), (D_2 39), (D_2 40), (D_2 41), (D_2 42), (D_2 43), undef, undef, undef, undef, undef, undef, undef, undef, undef, undef, undef, undef, undef, undef, undef, undef, undef, undef, undef, undef, undef, undef, undef, undef, undef, undef, undef, undef, undef] ++ [undef, undef]).toArray, []⟩) (by kernel_rfl) ?_
            refine wp_if rfl H (fun H => ?_) (fun H => ?_)
            · refine wp_skip ?_
              refine then_normal ?_
              refine fr_eq (b := ⟨([x0, x1, x2, x3, undef, undef, undef, undef, (D_2 0), x9, x28, x11, x12, (D_2 1), (D_2 2), (D_2 3), x0, x17, x17, (D 0), (D 1), x21, undef, x23, x3, x25, (D_1 0), x27, x28, x28, x30, x12, x1, x33, x34, x35, (D_2 9), (D_2 10), (D_2 11), (D_2 12), (D_2 13), (D_2 14), (D_2 15), (D_2 16), (D_2 17), (D_2 18), (D_2 19), (D_2 20), (D_2 21), (D_2 22)] ++ [(D_2 23), (D_2 24), (D_2 25), (D_2 26), (D_2 27), (D_2 28), (D_2 29), (D_2 30), (D_2 31), (D_2 32), (D_2 33), (D_2 34), (D_2 35), (D_2 36), (D_2 37), (D_2 38), (D_2 39), (D_2 40), (D_2 41), (D_2 42), (D_2 43), undef, undef, undef, undef, undef, undef, undef, undef, undef, undef, undef, undef, undef, undef, undef, undef, undef, undef, undef, undef, undef, undef, undef, undef, undef, undef, undef, undef, undef] ++ [undef, undef]).toArray, []⟩) (by kernel_rfl) ?_
              refine wp_seq ?_
              refine wp_block ?_
              refine wp_seq ?_
              refine wp_seq ?_
              refine lwp_list ?_
              refine ls_assign (x := (.int .i64 0)) (by kernel_rfl) (by kernel_rfl) ?_
              refine ls_nil ?_
              refine then_normal ?_
              refine fr_eq (b := ⟨([x0, x1, x2, x3, undef, undef, undef, undef, (D_2 0), x9, x28, x11, x12, (.int .i64 0), (D_2 2), (D_2 3), x0, x17, x17, (D 0), (D 1), x21, undef, x23, x3, x25, (D_1 0), x27, x28, x28, x30, x12, x1, x33, x34, x35, (D_2 9), (D_2 10), (D_2 11), (D_2 12), (D_2 13), (D_2 14), (D_2 15), (D_2 16), (D_2 17), (D_2 18), (D_2 19), (D_2 20), (D_2 21), (D_2 22)] ++ [(D_2 23), (D_2 24), (D_2 25), (D_2 26), (D_2 27), (D_2 28), (D_2 29), (D_2 30), (D_2 31), (D_2 32), (D_2 33), (D_2 34), (D_2 35), (D_2 36), (D_2 37), (D_2 38), (D_2 39), (D_2 40), (D_2 41), (D_2 42), (D_2 43), undef, undef, undef, undef, undef, undef, undef, undef, undef, undef, undef, undef, undef, undef, undef, undef, undef, undef, undef, undef, undef, undef, undef, undef, undef, undef, undef, undef, undef] ++ [undef, undef]).toArray, []⟩) (by kernel_rfl) ?_
              refine wp_block ?_
              obtain ⟨I_1, m_1, H0, HB⟩ := H
              refine wp_loop (fun a w => ∃ (D_3 : Nat → Value) (x11_1 x13 : Value) (h_7 : Heap), a = ⟨([x0, x1, x2, x3, undef, undef, undef, undef, (D_2 0), x9, x28, x11_1, x12, x13, (D_3 0), (D_3 1), x0, x17, x17, (D 0), (D 1), x21, undef, x23, x3, x25, (D_1 0), x27, x28, x28, x30, x12, x1, x33, x34, x35, (D_2 9), (D_2 10), (D_3 2), (D_3 3), (D_3 4), (D_3 5), (D_3 6), (D_3 7), (D_3 8), (D_3 9), (D_3 10), (D_3 11), (D_3 12), (D_3 13)] ++ [(D_3 14), (D_3 15), (D_3 16), (D_3 17), (D_3 18), (D_3 19), (D_3 20), (D_3 21), (D_3 22), (D_2 32), (D_2 33), (D_2 34), (D_2 35), (D_2 36), (D_2 37), (D_2 38), (D_2 39), (D_2 40), (D_2 41), (D_2 42), (D_2 43), undef, undef, undef, undef, undef, undef, undef, undef, undef, undef, undef, undef, undef, undef, undef, undef, undef, undef, undef, undef, undef, undef, undef, undef, undef, undef, undef, undef, undef] ++ [undef, undef]).toArray, []⟩ ∧ At w0 w h_7 ∧ I_1 (x11_1, x13) h_7) (fun a w => m_1 ((a.tmps.getD 11 undef), (a.tmps.getD 13 undef)) w.heap) ?_ ?_
              · exact ⟨(fun i => ([(D_2 2), (D_2 3), (D_2 11), (D_2 12), (D_2 13), (D_2 14), (D_2 15), (D_2 16), (D_2 17), (D_2 18), (D_2 19), (D_2 20), (D_2 21), (D_2 22), (D_2 23), (D_2 24), (D_2 25), (D_2 26), (D_2 27), (D_2 28), (D_2 29), (D_2 30), (D_2 31)]).getD i undef), x11, (.int .i64 0), h_6, by kernel_rfl, HA_7, H0⟩
              · rintro _ w_8 ⟨D_3, x11_1, x13, h_7, rfl, HA_8, HI⟩
                have H : betonylaw18_LdiscLong_l3 R (fun x11' x12' h' => I (x11', x12') h' ∧ m (x11', x12') h' < m (x11, x12) h_6) x0 x2 x28 x12 (fun x11_1' x13' h' => I_1 (x11_1', x13') h' ∧ m_1 (x11_1', x13') h' < m_1 (x11_1, x13) h_7) x11_1 x13 h_7 := HB (x11_1, x13) h_7 HI
                clear HB H0 HI
                unfold betonylaw18_LdiscLong_l3 at H
                refine wp_seq ?_
                refine wp_seq ?_
                refine lwp_list ?_
                refine ls_move (x := x13) (by kernel_rfl) (by kernel_rfl) ?_
                refine ls_p (d := some 39) (by kernel_rfl) (by kernel_rfl) (p_sLt (by kernel_rfl) (by kernel_rfl) H) (fun x39 H => ?_)
                refine ls_nil ?_
                refine then_normal ?_
                refine fr_eq (b := ⟨([x0, x1, x2, x3, undef, undef, undef, undef, (D_2 0), x9, x28, x11_1, x12, x13, (D_3 0), (D_3 1), x0, x17, x17, (D 0), (D 1), x21, undef, x23, x3, x25, (D_1 0), x27, x28, x28, x30, x12, x1, x33, x34, x35, (D_2 9), (D_2 10), x13, x39, (D_3 4), (D_3 5), (D_3 6), (D_3 7), (D_3 8), (D_3 9), (D_3 10), (D_3 11), (D_3 12), (D_3 13)] ++ [(D_3 14), (D_3 15), (D_3 16), (D_3 17), (D_3 18), (D_3 19), (D_3 20), (D_3 21), (D_3 22), (D_2 32), (D_2 33), (D_2 34), (D_2 35), (D_2 36), (D_2 37), (D_2 38), (D_2 39), (D_2 40), (D_2 41), (D_2 42), (D_2 43), undef, undef, undef, undef, undef, undef, undef, undef, undef, undef, undef, undef, undef, undef, undef, undef, undef, undef, undef, undef, undef, undef, undef, undef, undef, undef, undef, undef, undef] ++ [undef, undef]).toArray, []⟩) (by kernel_rfl) ?_
                refine wp_if rfl H (fun H => ?_) (fun H => ?_)
                · refine wp_skip ?_
                  refine then_normal ?_
                  refine fr_eq (b := ⟨([x0, x1, x2, x3, undef, undef, undef, undef, (D_2 0), x9, x28, x11_1, x12, x13, (D_3 0), (D_3 1), x0, x17, x17, (D 0), (D 1), x21, undef, x23, x3, x25, (D_1 0), x27, x28, x28, x30, x12, x1, x33, x34, x35, (D_2 9), (D_2 10), x13, x39, (D_3 4), (D_3 5), (D_3 6), (D_3 7), (D_3 8), (D_3 9), (D_3 10), (D_3 11), (D_3 12), (D_3 13)] ++ [(D_3 14), (D_3 15), (D_3 16), (D_3 17), (D_3 18), (D_3 19), (D_3 20), (D_3 21), (D_3 22), (D_2 32), (D_2 33), (D_2 34), (D_2 35), (D_2 36), (D_2 37), (D_2 38), (D_2 39), (D_2 40), (D_2 41), (D_2 42), (D_2 43), undef, undef, undef, undef, undef, undef, undef, undef, undef, undef, undef, undef, undef, undef, undef, undef, undef, undef, undef, undef, undef, undef, undef, undef, undef, undef, undef, undef, undef] ++ [undef, undef]).toArray, []⟩) (by kernel_rfl) ?_
                  refine wp_seq ?_
                  refine wp_join (fun a w => ∃ (D_4 : Nat → Value) (x11_2 : Value) (h_8 : Heap), a = ⟨([x0, x1, x2, x3, undef, undef, undef, undef, (D_2 0), x9, x28, x11_2, x12, x13, (D_4 0), (D_4 1), x0, x17, x17, (D 0), (D 1), x21, undef, x23, x3, x25, (D_1 0), x27, x28, x28, x30, x12, x1, x33, x34, x35, (D_2 9), (D_2 10), x13, x39, (D_3 4), (D_3 5), (D_4 2), (D_4 3), (D_4 4), (D_4 5), (D_4 6), (D_4 7), (D_4 8), (D_4 9)] ++ [(D_4 10), (D_4 11), (D_4 12), (D_4 13), (D_4 14), (D_4 15), (D_4 16), (D_4 17), (D_4 18), (D_2 32), (D_2 33), (D_2 34), (D_2 35), (D_2 36), (D_2 37), (D_2 38), (D_2 39), (D_2 40), (D_2 41), (D_2 42), (D_2 43), undef, undef, undef, undef, undef, undef, undef, undef, undef, undef, undef, undef, undef, undef, undef, undef, undef, undef, undef, undef, undef, undef, undef, undef, undef, undef, undef, undef, undef] ++ [undef, undef]).toArray, []⟩ ∧ At w0 w h_8 ∧ betonylaw18_LdiscLong_j4 (fun x11_1' x13' h' => I_1 (x11_1', x13') h' ∧ m_1 (x11_1', x13') h' < m_1 (x11_1, x13) h_7) x13 x11_2 h_8) ?_ ?_
                  · refine wp_block ?_
                    refine wp_seq ?_
                    refine lwp_list ?_
                    refine ls_move (x := x28) (by kernel_rfl) (by kernel_rfl) ?_
                    refine ls_move (x := x0) (by kernel_rfl) (by kernel_rfl) ?_
                    refine ls_d (d := some 45) (by kernel_rfl) (by kernel_rfl) HA_8 (d_call (by kernel_rfl) (by kernel_rfl) H) (fun x45 h_9 w_10 H HA_10 => ?_)
                    refine ls_move (x := x45) (by kernel_rfl) (by kernel_rfl) ?_
                    refine ls_p (d := some 46) (by kernel_rfl) (by kernel_rfl) (p_tup (by kernel_rfl) H) (fun x46 H => ?_)
                    refine ls_p (d := some 47) (by kernel_rfl) (by kernel_rfl) (p_tup (by kernel_rfl) H) (fun x47 H => ?_)
                    refine ls_fr (b := ⟨([x0, x1, x2, x3, undef, undef, undef, undef, (D_2 0), x9, x28, x11_1, x12, x13, (D_3 0), (D_3 1), x0, x17, x17, (D 0), (D 1), x21, undef, x23, x3, x25, (D_1 0), x27, x28, x28, x30, x12, x1, x33, x34, x35, (D_2 9), (D_2 10), x13, x39, (D_3 4), (D_3 5), x45, x28, x0, x45, x46, x47, (D_3 12), (D_3 13)] ++ [(D_3 14), (D_3 15), (D_3 16), (D_3 17), (D_3 18), (D_3 19), (D_3 20), (D_3 21), (D_3 22), (D_2 32), (D_2 33), (D_2 34), (D_2 35), (D_2 36), (D_2 37), (D_2 38), (D_2 39), (D_2 40), (D_2 41), (D_2 42), (D_2 43), undef, undef, undef, undef, undef, undef, undef, undef, undef, undef, undef, undef, undef, undef, undef, undef, undef, undef, undef, undef, undef, undef, undef, undef, undef, undef, undef, undef, undef] ++ [undef, undef]).toArray, []⟩) (by kernel_rfl) ?_
                    refine ls_assign (x := x46) (by kernel_rfl) (by kernel_rfl) ?_
                    refine ls_assign (x := x47) (by kernel_rfl) (by kernel_rfl) ?_
                    refine ls_nil ?_
                    refine then_normal ?_
                    refine fr_eq (b := ⟨([x0, x1, x2, x3, undef, undef, undef, undef, (D_2 0), x9, x28, x11_1, x12, x13, x46, x47, x0, x17, x17, (D 0), (D 1), x21, undef, x23, x3, x25, (D_1 0), x27, x28, x28, x30, x12, x1, x33, x34, x35, (D_2 9), (D_2 10), x13, x39, (D_3 4), (D_3 5), x45, x28, x0, x45, x46, x47, (D_3 12), (D_3 13)] ++ [(D_3 14), (D_3 15), (D_3 16), (D_3 17), (D_3 18), (D_3 19), (D_3 20), (D_3 21), (D_3 22), (D_2 32), (D_2 33), (D_2 34), (D_2 35), (D_2 36), (D_2 37), (D_2 38), (D_2 39), (D_2 40), (D_2 41), (D_2 42), (D_2 43), undef, undef, undef, undef, undef, undef, undef, undef, undef, undef, undef, undef, undef, undef, undef, undef, undef, undef, undef, undef, undef, undef, undef, undef, undef, undef, undef, undef, undef] ++ [undef, undef]).toArray, []⟩) (by kernel_rfl) ?_
                    refine wp_seq ?_
                    refine lwp_list ?_
                    refine ls_move (x := x46) (by kernel_rfl) (by kernel_rfl) ?_
                    refine ls_p (d := some 49) (by kernel_rfl) (by kernel_rfl) (p_len Try.underlying30 (by kernel_rfl) H) (fun x49 H => ?_)
                    refine ls_p (d := some 50) (by kernel_rfl) (by kernel_rfl) (p_sEq (by kernel_rfl) (by kernel_rfl) H) (fun x50 H => ?_)
                    refine ls_move (x := x50) (by kernel_rfl) (by kernel_rfl) ?_
                    refine ls_and [(), (), (), (), ()] (fun K a w => ∃ (D_5 : Nat → Value) (x56 : Value), a = ⟨([x0, x1, x2, x3, undef, undef, undef, undef, (D_2 0), x9, x28, x11_1, x12, x13, x46, x47, x0, x17, x17, (D 0), (D 1), x21, undef, x23, x3, x25, (D_1 0), x27, x28, x28, x30, x12, x1, x33, x34, x35, (D_2 9), (D_2 10), x13, x39, (D_3 4), (D_3 5), x45, x28, x0, x45, x46, x47, x46, x49] ++ [x50, x50, (D_5 0), (D_5 1), (D_5 2), (D_5 3), x56, (D_3 21), (D_3 22), (D_2 32), (D_2 33), (D_2 34), (D_2 35), (D_2 36), (D_2 37), (D_2 38), (D_2 39), (D_2 40), (D_2 41), (D_2 42), (D_2 43), undef, undef, undef, undef, undef, undef, undef, undef, undef, undef, undef, undef, undef, undef, undef, undef, undef, undef, undef, undef, undef, undef, undef, undef, undef, undef, undef, undef, undef] ++ [undef, undef]).toArray, []⟩ ∧ At w0 w h_9 ∧ K x56) H (fun hb H => ?_) (fun hb H => ?_) ?_
                    · refine ls_move (x := x46) (by rw [hb]; kernel_rfl) (by kernel_rfl) ?_
                      refine ls_p (d := some 53) (by kernel_rfl) (by rw [hb]; kernel_rfl) (p_ixs Try.underlying30 Try.sizeOf5 (by kernel_rfl) (by kernel_rfl) H) (fun x53 H => ?_)
                      refine ls_fr (b := ⟨([x0, x1, x2, x3, undef, undef, undef, undef, (D_2 0), x9, x28, x11_1, x12, x13, x46, x47, x0, x17, x17, (D 0), (D 1), x21, undef, x23, x3, x25, (D_1 0), x27, x28, x28, x30, x12, x1, x33, x34, x35, (D_2 9), (D_2 10), x13, x39, (D_3 4), (D_3 5), x45, x28, x0, x45, x46, x47, x46, x49] ++ [x50, x50, x46, x53, (D_3 18), (D_3 19), (D_3 20), (D_3 21), (D_3 22), (D_2 32), (D_2 33), (D_2 34), (D_2 35), (D_2 36), (D_2 37), (D_2 38), (D_2 39), (D_2 40), (D_2 41), (D_2 42), (D_2 43), undef, undef, undef, undef, undef, undef, undef, undef, undef, undef, undef, undef, undef, undef, undef, undef, undef, undef, undef, undef, undef, undef, undef, undef, undef, undef, undef, undef, undef] ++ [undef, undef]).toArray, []⟩) (by kernel_rfl) ?_
                      refine ls_y (d := some 54) (by kernel_rfl) (by rw [hb]; kernel_rfl) HA_10 (y_ld Try.isAgg5 (by kernel_rfl) H) (fun x54 H => ?_)
                      refine ls_p (d := some 55) (by kernel_rfl) (by rw [hb]; kernel_rfl) (p_sEq (by kernel_rfl) (by kernel_rfl) H) (fun x55 H => ?_)
                      refine ls_pick_t (x := x55) (by kernel_rfl) (by rw [hb]; kernel_rfl) (by kernel_rfl) ?_
                      refine ls_nil ?_
                      refine then_normal ?_
                      exact ⟨(fun i => ([x46, x53, x54, x55]).getD i undef), x55, by kernel_rfl, HA_10, H⟩
                    · refine ls_skip (d := some 52) (by kernel_rfl) (by rw [hb]; kernel_rfl) ?_
                      refine ls_skip (d := some 53) (by kernel_rfl) (by rw [hb]; kernel_rfl) ?_
                      refine ls_fr (b := ⟨([x0, x1, x2, x3, undef, undef, undef, undef, (D_2 0), x9, x28, x11_1, x12, x13, x46, x47, x0, x17, x17, (D 0), (D 1), x21, undef, x23, x3, x25, (D_1 0), x27, x28, x28, x30, x12, x1, x33, x34, x35, (D_2 9), (D_2 10), x13, x39, (D_3 4), (D_3 5), x45, x28, x0, x45, x46, x47, x46, x49] ++ [x50, x50, undef, undef, (D_3 18), (D_3 19), (D_3 20), (D_3 21), (D_3 22), (D_2 32), (D_2 33), (D_2 34), (D_2 35), (D_2 36), (D_2 37), (D_2 38), (D_2 39), (D_2 40), (D_2 41), (D_2 42), (D_2 43), undef, undef, undef, undef, undef, undef, undef, undef, undef, undef, undef, undef, undef, undef, undef, undef, undef, undef, undef, undef, undef, undef, undef, undef, undef, undef, undef, undef, undef] ++ [undef, undef]).toArray, []⟩) (by kernel_rfl) ?_
                      refine ls_skip (d := some 54) (by kernel_rfl) (by rw [hb]; kernel_rfl) ?_
                      refine ls_skip (d := some 55) (by kernel_rfl) (by rw [hb]; kernel_rfl) ?_
                      refine ls_pick_f (y := (.bool false)) (by kernel_rfl) (by rw [hb]; kernel_rfl) (by kernel_rfl) ?_
                      refine ls_nil ?_
                      refine then_normal ?_
                      exact ⟨(fun i => ([undef, undef, undef, undef]).getD i undef), (.bool false), by kernel_rfl, HA_10, H⟩
                    · rintro _ w_11 ⟨D_5, x56, rfl, HA_11, H⟩
                      refine ls_nil ?_
                      refine then_normal ?_
                      refine fr_eq (b := ⟨([x0, x1, x2, x3, undef, undef, undef, undef, (D_2 0), x9, x28, x11_1, x12, x13, x46, x47, x0, x17, x17, (D 0), (D 1), x21, undef, x23, x3, x25, (D_1 0), x27, x28, x28, x30, x12, x1, x33, x34, x35, (D_2 9), (D_2 10), x13, x39, (D_3 4), (D_3 5), x45, x28, x0, x45, x46, x47, x46, x49] ++ [x50, x50, (D_5 0), (D_5 1), (D_5 2), (D_5 3), x56, (D_3 21), (D_3 22), (D_2 32), (D_2 33), (D_2 34), (D_2 35), (D_2 36), (D_2 37), (D_2 38), (D_2 39), (D_2 40), (D_2 41), (D_2 42), (D_2 43), undef, undef, undef, undef, undef, undef, undef, undef, undef, undef, undef, undef, undef, undef, undef, undef, undef, undef, undef, undef, undef, undef, undef, undef, undef, undef, undef, undef, undef] ++ [undef, undef]).toArray, []⟩) (by kernel_rfl) ?_
                      refine wp_if rfl H (fun H => ?_) (fun H => ?_)
                      · refine lwp_list ?_
                        refine ls_move (x := x11_1) (by kernel_rfl) (by kernel_rfl) ?_
                        refine ls_p (d := some 58) (by kernel_rfl) (by kernel_rfl) (p_add (by kernel_rfl) (by kernel_rfl) H) (fun x58 H => ?_)
                        refine ls_assign (x := x58) (by kernel_rfl) (by kernel_rfl) ?_
                        refine ls_nil ?_
                        refine block_normal ?_
                        exact ⟨(fun i => ([x46, x47, x45, x28, x0, x45, x46, x47, x46, x49, x50, x50, (D_5 0), (D_5 1), (D_5 2), (D_5 3), x56, x11_1, x58]).getD i undef), x58, h_9, by kernel_rfl, HA_11, H⟩
                      · refine wp_skip ?_
                        refine block_normal ?_
                        exact ⟨(fun i => ([x46, x47, x45, x28, x0, x45, x46, x47, x46, x49, x50, x50, (D_5 0), (D_5 1), (D_5 2), (D_5 3), x56, (D_3 21), (D_3 22)]).getD i undef), x11_1, h_9, by kernel_rfl, HA_11, H⟩
                  · rintro _ w_9 ⟨D_4, x11_2, h_8, rfl, HA_9, H⟩
                    unfold betonylaw18_LdiscLong_j4 at H
                    refine then_normal ?_
                    refine fr_eq (b := ⟨([x0, x1, x2, x3, undef, undef, undef, undef, (D_2 0), x9, x28, x11_2, x12, x13, (D_4 0), (D_4 1), x0, x17, x17, (D 0), (D 1), x21, undef, x23, x3, x25, (D_1 0), x27, x28, x28, x30, x12, x1, x33, x34, x35, (D_2 9), (D_2 10), x13, x39, (D_3 4), (D_3 5), (D_4 2), (D_4 3), (D_4 4), (D_4 5), (D_4 6), (D_4 7), (D_4 8), (D_4 9)] ++ [(D_4 10), (D_4 11), (D_4 12), (D_4 13), (D_4 14), (D_4 15), (D_4 16), (D_4 17), (D_4 18), (D_2 32), (D_2 33), (D_2 34), (D_2 35), (D_2 36), (D_2 37), (D_2 38), (D_2 39), (D_2 40), (D_2 41), (D_2 42), (D_2 43), undef, undef, undef, undef, undef, undef, undef, undef, undef, undef, undef, undef, undef, undef, undef, undef, undef, undef, undef, undef, undef, undef, undef, undef, undef, undef, undef, undef, undef] ++ [undef, undef]).toArray, []⟩) (by kernel_rfl) ?_
                    refine lwp_list ?_
                    refine ls_move (x := x13) (by kernel_rfl) (by kernel_rfl) ?_
                    refine ls_p (d := some 41) (by kernel_rfl) (by kernel_rfl) (p_add (by kernel_rfl) (by kernel_rfl) H) (fun x41 H => ?_)
                    refine ls_assign (x := x41) (by kernel_rfl) (by kernel_rfl) ?_
                    refine ls_nil ?_
                    exact ⟨⟨(fun i => ([(D_4 0), (D_4 1), x13, x39, x13, x41, (D_4 2), (D_4 3), (D_4 4), (D_4 5), (D_4 6), (D_4 7), (D_4 8), (D_4 9), (D_4 10), (D_4 11), (D_4 12), (D_4 13), (D_4 14), (D_4 15), (D_4 16), (D_4 17), (D_4 18)]).getD i undef), x11_2, x41, h_8, by kernel_rfl, HA_9, H.1⟩, loop_lt HA_9.heap HA_8.heap (by kernel_rfl) (by kernel_rfl) H.2⟩
                · refine wp_exit ?_
                  refine then_exit ?_
                  refine then_exit ?_
                  refine block_exit ?_
                  refine then_normal ?_
                  refine fr_eq (b := ⟨([x0, x1, x2, x3, undef, undef, undef, undef, (D_2 0), x9, x28, x11_1, x12, x13, (D_3 0), (D_3 1), x0, x17, x17, (D 0), (D 1), x21, undef, x23, x3, x25, (D_1 0), x27, x28, x28, x30, x12, x1, x33, x34, x35, (D_2 9), (D_2 10), x13, x39, (D_3 4), (D_3 5), (D_3 6), (D_3 7), (D_3 8), (D_3 9), (D_3 10), (D_3 11), (D_3 12), (D_3 13)] ++ [(D_3 14), (D_3 15), (D_3 16), (D_3 17), (D_3 18), (D_3 19), (D_3 20), (D_3 21), (D_3 22), (D_2 32), (D_2 33), (D_2 34), (D_2 35), (D_2 36), (D_2 37), (D_2 38), (D_2 39), (D_2 40), (D_2 41), (D_2 42), (D_2 43), undef, undef, undef, undef, undef, undef, undef, undef, undef, undef, undef, undef, undef, undef, undef, undef, undef, undef, undef, undef, undef, undef, undef, undef, undef, undef, undef, undef, undef] ++ [undef, undef]).toArray, []⟩) (by kernel_rfl) ?_
                  refine wp_seq ?_
                  refine wp_seq ?_
                  refine lwp_list ?_
                  refine ls_move (x := x2) (by kernel_rfl) (by kernel_rfl) ?_
                  refine ls_nil ?_
                  refine then_normal ?_
                  refine fr_eq (b := ⟨([x0, x1, x2, x3, undef, undef, undef, undef, (D_2 0), x9, x28, x11_1, x12, x13, (D_3 0), (D_3 1), x0, x17, x17, (D 0), (D 1), x21, undef, x23, x3, x25, (D_1 0), x27, x28, x28, x30, x12, x1, x33, x34, x35, (D_2 9), (D_2 10), x13, x39, (D_3 4), (D_3 5), (D_3 6), (D_3 7), (D_3 8), (D_3 9), (D_3 10), (D_3 11), (D_3 12), (D_3 13)] ++ [(D_3 14), (D_3 15), (D_3 16), (D_3 17), (D_3 18), (D_3 19), (D_3 20), (D_3 21), (D_3 22), x2, (D_2 33), (D_2 34), (D_2 35), (D_2 36), (D_2 37), (D_2 38), (D_2 39), (D_2 40), (D_2 41), (D_2 42), (D_2 43), undef, undef, undef, undef, undef, undef, undef, undef, undef, undef, undef, undef, undef, undef, undef, undef, undef, undef, undef, undef, undef, undef, undef, undef, undef, undef, undef, undef, undef] ++ [undef, undef]).toArray, []⟩) (by kernel_rfl) ?_
                  refine wp_join (fun a w => ∃ (D_6 : Nat → Value) (h_10 : Heap), a = ⟨([x0, x1, x2, x3, undef, undef, undef, undef, (D_2 0), x9, x28, x11_1, x12, x13, (D_3 0), (D_3 1), x0, x17, x17, (D 0), (D 1), x21, undef, x23, x3, x25, (D_1 0), x27, x28, x28, x30, x12, x1, x33, x34, x35, (D_2 9), (D_2 10), x13, x39, (D_3 4), (D_3 5), (D_3 6), (D_3 7), (D_3 8), (D_3 9), (D_3 10), (D_3 11), (D_3 12), (D_3 13)] ++ [(D_3 14), (D_3 15), (D_3 16), (D_3 17), (D_3 18), (D_3 19), (D_3 20), (D_3 21), (D_3 22), x2, (D_6 0), (D_6 1), (D_2 35), (D_2 36), (D_2 37), (D_2 38), (D_2 39), (D_2 40), (D_2 41), (D_2 42), (D_2 43), undef, undef, undef, undef, undef, undef, undef, undef, undef, undef, undef, undef, undef, undef, undef, undef, undef, undef, undef, undef, undef, undef, undef, undef, undef, undef, undef, undef, undef] ++ [undef, undef]).toArray, []⟩ ∧ At w0 w h_10 ∧ betonylaw18_LdiscLong_j5 R (fun x11' x12' h' => I (x11', x12') h' ∧ m (x11', x12') h' < m (x11, x12) h_6) x28 x11_1 x12 h_10) ?_ ?_
                  · refine wp_if rfl H (fun H => ?_) (fun H => ?_)
                    · refine lwp_list ?_
                      refine ls_move (x := x28) (by kernel_rfl) (by kernel_rfl) ?_
                      refine ls_d (d := some 61) (by kernel_rfl) (by kernel_rfl) HA_8 (d_call (by kernel_rfl) (by kernel_rfl) H) (fun x61 h_14 w_16 H HA_16 => ?_)
                      refine ls_nil ?_
                      exact ⟨(fun i => ([x28, x61]).getD i undef), h_14, by kernel_rfl, HA_16, H⟩
                    · refine wp_skip ?_
                      exact ⟨(fun i => ([(D_2 33), (D_2 34)]).getD i undef), h_7, by kernel_rfl, HA_8, H⟩
                  · rintro _ w_12 ⟨D_6, h_10, rfl, HA_12, H⟩
                    unfold betonylaw18_LdiscLong_j5 at H
                    refine then_normal ?_
                    refine fr_eq (b := ⟨([x0, x1, x2, x3, undef, undef, undef, undef, (D_2 0), x9, x28, x11_1, x12, x13, (D_3 0), (D_3 1), x0, x17, x17, (D 0), (D 1), x21, undef, x23, x3, x25, (D_1 0), x27, x28, x28, x30, x12, x1, x33, x34, x35, (D_2 9), (D_2 10), x13, x39, (D_3 4), (D_3 5), (D_3 6), (D_3 7), (D_3 8), (D_3 9), (D_3 10), (D_3 11), (D_3 12), (D_3 13)] ++ [(D_3 14), (D_3 15), (D_3 16), (D_3 17), (D_3 18), (D_3 19), (D_3 20), (D_3 21), (D_3 22), x2, (D_6 0), (D_6 1), (D_2 35), (D_2 36), (D_2 37), (D_2 38), (D_2 39), (D_2 40), (D_2 41), (D_2 42), (D_2 43), undef, undef, undef, undef, undef, undef, undef, undef, undef, undef, undef, undef, undef, undef, undef, undef, undef, undef, undef, undef, undef, undef, undef, undef, undef, undef, undef, undef, undef] ++ [undef, undef]).toArray, []⟩) (by kernel_rfl) ?_
                    refine wp_seq ?_
                    refine lwp_list ?_
                    refine ls_move (x := x28) (by kernel_rfl) (by kernel_rfl) ?_
                    refine ls_d (d := some 63) (by kernel_rfl) (by kernel_rfl) HA_12 (d_call (by kernel_rfl) (by kernel_rfl) H) (fun x63 h_11 w_13 H HA_13 => ?_)
                    refine ls_p (d := some 64) (by kernel_rfl) (by kernel_rfl) (p_len Try.underlying30 (by kernel_rfl) H) (fun x64 H => ?_)
                    refine ls_p (d := some 65) (by kernel_rfl) (by kernel_rfl) (p_sGt (by kernel_rfl) (by kernel_rfl) H) (fun x65 H => ?_)
                    refine ls_move (x := x65) (by kernel_rfl) (by kernel_rfl) ?_
                    refine ls_orh [(), (), (), ()] (fun K a w => ∃ (D_7 : Nat → Value) (x70 : Value) (h_12 : Heap), a = ⟨([x0, x1, x2, x3, undef, undef, undef, undef, (D_2 0), x9, x28, x11_1, x12, x13, (D_3 0), (D_3 1), x0, x17, x17, (D 0), (D 1), x21, undef, x23, x3, x25, (D_1 0), x27, x28, x28, x30, x12, x1, x33, x34, x35, (D_2 9), (D_2 10), x13, x39, (D_3 4), (D_3 5), (D_3 6), (D_3 7), (D_3 8), (D_3 9), (D_3 10), (D_3 11), (D_3 12), (D_3 13)] ++ [(D_3 14), (D_3 15), (D_3 16), (D_3 17), (D_3 18), (D_3 19), (D_3 20), (D_3 21), (D_3 22), x2, (D_6 0), (D_6 1), x28, x63, x64, x65, x65, (D_7 0), (D_7 1), (D_7 2), x70, undef, undef, undef, undef, undef, undef, undef, undef, undef, undef, undef, undef, undef, undef, undef, undef, undef, undef, undef, undef, undef, undef, undef, undef, undef, undef, undef, undef, undef] ++ [undef, undef]).toArray, []⟩ ∧ At w0 w h_12 ∧ K x70 h_12) H (fun hb_1 H => ?_) (fun hb_1 H => ?_) ?_
                    · refine ls_move (x := x28) (by rw [hb_1]; kernel_rfl) (by kernel_rfl) ?_
                      refine ls_fr (b := ⟨([x0, x1, x2, x3, undef, undef, undef, undef, (D_2 0), x9, x28, x11_1, x12, x13, (D_3 0), (D_3 1), x0, x17, x17, (D 0), (D 1), x21, undef, x23, x3, x25, (D_1 0), x27, x28, x28, x30, x12, x1, x33, x34, x35, (D_2 9), (D_2 10), x13, x39, (D_3 4), (D_3 5), (D_3 6), (D_3 7), (D_3 8), (D_3 9), (D_3 10), (D_3 11), (D_3 12), (D_3 13)] ++ [(D_3 14), (D_3 15), (D_3 16), (D_3 17), (D_3 18), (D_3 19), (D_3 20), (D_3 21), (D_3 22), x2, (D_6 0), (D_6 1), x28, x63, x64, x65, x65, x28, (D_2 41), (D_2 42), (D_2 43), undef, undef, undef, undef, undef, undef, undef, undef, undef, undef, undef, undef, undef, undef, undef, undef, undef, undef, undef, undef, undef, undef, undef, undef, undef, undef, undef, undef, undef] ++ [undef, undef]).toArray, []⟩) (by kernel_rfl) ?_
                      refine ls_d (d := some 68) (by kernel_rfl) (by rw [hb_1]; kernel_rfl) HA_13 (d_call (by kernel_rfl) (by kernel_rfl) H) (fun x68 h_13 w_15 H HA_15 => ?_)
                      refine ls_p (d := some 69) (by kernel_rfl) (by rw [hb_1]; kernel_rfl) (p_sGt (by kernel_rfl) (by kernel_rfl) H) (fun x69 H => ?_)
                      refine ls_pick_f (y := x69) (by kernel_rfl) (by rw [hb_1]; kernel_rfl) (by kernel_rfl) ?_
                      refine ls_nil ?_
                      refine then_normal ?_
                      exact ⟨(fun i => ([x28, x68, x69]).getD i undef), x69, h_13, by kernel_rfl, HA_15, H⟩
                    · refine ls_skip (d := some 67) (by kernel_rfl) (by rw [hb_1]; kernel_rfl) ?_
                      refine ls_fr (b := ⟨([x0, x1, x2, x3, undef, undef, undef, undef, (D_2 0), x9, x28, x11_1, x12, x13, (D_3 0), (D_3 1), x0, x17, x17, (D 0), (D 1), x21, undef, x23, x3, x25, (D_1 0), x27, x28, x28, x30, x12, x1, x33, x34, x35, (D_2 9), (D_2 10), x13, x39, (D_3 4), (D_3 5), (D_3 6), (D_3 7), (D_3 8), (D_3 9), (D_3 10), (D_3 11), (D_3 12), (D_3 13)] ++ [(D_3 14), (D_3 15), (D_3 16), (D_3 17), (D_3 18), (D_3 19), (D_3 20), (D_3 21), (D_3 22), x2, (D_6 0), (D_6 1), x28, x63, x64, x65, x65, undef, (D_2 41), (D_2 42), (D_2 43), undef, undef, undef, undef, undef, undef, undef, undef, undef, undef, undef, undef, undef, undef, undef, undef, undef, undef, undef, undef, undef, undef, undef, undef, undef, undef, undef, undef, undef] ++ [undef, undef]).toArray, []⟩) (by kernel_rfl) ?_
                      refine ls_skip (d := some 68) (by kernel_rfl) (by rw [hb_1]; kernel_rfl) ?_
                      refine ls_skip (d := some 69) (by kernel_rfl) (by rw [hb_1]; kernel_rfl) ?_
                      refine ls_pick_t (x := (.bool true)) (by kernel_rfl) (by rw [hb_1]; kernel_rfl) (by kernel_rfl) ?_
                      refine ls_nil ?_
                      refine then_normal ?_
                      exact ⟨(fun i => ([undef, undef, undef]).getD i undef), (.bool true), h_11, by kernel_rfl, HA_13, H⟩
                    · rintro _ w_14 ⟨D_7, x70, h_12, rfl, HA_14, H⟩
                      refine ls_nil ?_
                      refine then_normal ?_
                      refine fr_eq (b := ⟨([x0, x1, x2, x3, undef, undef, undef, undef, (D_2 0), x9, x28, x11_1, x12, x13, (D_3 0), (D_3 1), x0, x17, x17, (D 0), (D 1), x21, undef, x23, x3, x25, (D_1 0), x27, x28, x28, x30, x12, x1, x33, x34, x35, (D_2 9), (D_2 10), x13, x39, (D_3 4), (D_3 5), (D_3 6), (D_3 7), (D_3 8), (D_3 9), (D_3 10), (D_3 11), (D_3 12), (D_3 13)] ++ [(D_3 14), (D_3 15), (D_3 16), (D_3 17), (D_3 18), (D_3 19), (D_3 20), (D_3 21), (D_3 22), x2, (D_6 0), (D_6 1), x28, x63, x64, x65, x65, (D_7 0), (D_7 1), (D_7 2), x70, undef, undef, undef, undef, undef, undef, undef, undef, undef, undef, undef, undef, undef, undef, undef, undef, undef, undef, undef, undef, undef, undef, undef, undef, undef, undef, undef, undef, undef] ++ [undef, undef]).toArray, []⟩) (by kernel_rfl) ?_
                      refine wp_if rfl H (fun H => ?_) (fun H => ?_)
                      · refine wp_seq ?_
                        refine lwp_list ?_
                        refine ls_assign (x := (.bool false)) (by kernel_rfl) (by kernel_rfl) ?_
                        refine ls_nil ?_
                        refine then_normal ?_
                        refine fr_eq (b := ⟨([x0, x1, x2, x3, undef, undef, undef, undef, (.bool false), x9, x28, x11_1, x12, x13, (D_3 0), (D_3 1), x0, x17, x17, (D 0), (D 1), x21, undef, x23, x3, x25, (D_1 0), x27, x28, x28, x30, x12, x1, x33, x34, x35, (D_2 9), (D_2 10), x13, x39, (D_3 4), (D_3 5), (D_3 6), (D_3 7), (D_3 8), (D_3 9), (D_3 10), (D_3 11), (D_3 12), (D_3 13)] ++ [(D_3 14), (D_3 15), (D_3 16), (D_3 17), (D_3 18), (D_3 19), (D_3 20), (D_3 21), (D_3 22), x2, (D_6 0), (D_6 1), x28, x63, x64, x65, x65, (D_7 0), (D_7 1), (D_7 2), x70, undef, undef, undef, undef, undef, undef, undef, undef, undef, undef, undef, undef, undef, undef, undef, undef, undef, undef, undef, undef, undef, undef, undef, undef, undef, undef, undef, undef, undef] ++ [undef, undef]).toArray, []⟩) (by kernel_rfl) ?_
                        refine wp_ret ?_
                        refine block_ret ?_
                        refine then_ret ?_
                        refine then_ret ?_
                        refine block_ret ?_
                        refine then_ret ?_
                        exact end1 (Try.results4) (by kernel_rfl) (by kernel_rfl) HA_14 H _ (.inr rfl)
                      · refine wp_skip ?_
                        refine block_normal ?_
                        refine then_normal ?_
                        refine fr_eq (b := ⟨([x0, x1, x2, x3, undef, undef, undef, undef, (D_2 0), x9, x28, x11_1, x12, x13, (D_3 0), (D_3 1), x0, x17, x17, (D 0), (D 1), x21, undef, x23, x3, x25, (D_1 0), x27, x28, x28, x30, x12, x1, x33, x34, x35, (D_2 9), (D_2 10), x13, x39, (D_3 4), (D_3 5), (D_3 6), (D_3 7), (D_3 8), (D_3 9), (D_3 10), (D_3 11), (D_3 12), (D_3 13)] ++ [(D_3 14), (D_3 15), (D_3 16), (D_3 17), (D_3 18), (D_3 19), (D_3 20), (D_3 21), (D_3 22), x2, (D_6 0), (D_6 1), x28, x63, x64, x65, x65, (D_7 0), (D_7 1), (D_7 2), x70, undef, undef, undef, undef, undef, undef, undef, undef, undef, undef, undef, undef, undef, undef, undef, undef, undef, undef, undef, undef, undef, undef, undef, undef, undef, undef, undef, undef, undef] ++ [undef, undef]).toArray, []⟩) (by kernel_rfl) ?_
                        refine lwp_list ?_
                        refine ls_move (x := x12) (by kernel_rfl) (by kernel_rfl) ?_
                        refine ls_p (d := some 37) (by kernel_rfl) (by kernel_rfl) (p_add (by kernel_rfl) (by kernel_rfl) H) (fun x37 H => ?_)
                        refine ls_assign (x := x37) (by kernel_rfl) (by kernel_rfl) ?_
                        refine ls_nil ?_
                        exact ⟨⟨(fun i => ([(D_2 0), x13, (D_3 0), (D_3 1), x12, x1, x33, x34, x35, x12, x37, x13, x39, (D_3 4), (D_3 5), (D_3 6), (D_3 7), (D_3 8), (D_3 9), (D_3 10), (D_3 11), (D_3 12), (D_3 13), (D_3 14), (D_3 15), (D_3 16), (D_3 17), (D_3 18), (D_3 19), (D_3 20), (D_3 21), (D_3 22), x2, (D_6 0), (D_6 1), x28, x63, x64, x65, x65, (D_7 0), (D_7 1), (D_7 2), x70]).getD i undef), x11_1, x37, h_12, by kernel_rfl, HA_14, H.1⟩, loop_lt HA_14.heap HA_7.heap (by kernel_rfl) (by kernel_rfl) H.2⟩
            · refine wp_exit ?_
              refine then_exit ?_
              refine then_exit ?_
              refine block_exit ?_
              refine then_normal ?_
              refine fr_eq (b := ⟨([x0, x1, x2, x3, undef, undef, undef, undef, (D_2 0), x9, x28, x11, x12, (D_2 1), (D_2 2), (D_2 3), x0, x17, x17, (D 0), (D 1), x21, undef, x23, x3, x25, (D_1 0), x27, x28, x28, x30, x12, x1, x33, x34, x35, (D_2 9), (D_2 10), (D_2 11), (D_2 12), (D_2 13), (D_2 14), (D_2 15), (D_2 16), (D_2 17), (D_2 18), (D_2 19), (D_2 20), (D_2 21), (D_2 22)] ++ [(D_2 23), (D_2 24), (D_2 25), (D_2 26), (D_2 27), (D_2 28), (D_2 29), (D_2 30), (D_2 31), (D_2 32), (D_2 33), (D_2 34), (D_2 35), (D_2 36), (D_2 37), (D_2 38), (D_2 39), (D_2 40), (D_2 41), (D_2 42), (D_2 43), undef, undef, undef, undef, undef, undef, undef, undef, undef, undef, undef, undef, undef, undef, undef, undef, undef, undef, undef, undef, undef, undef, undef, undef, undef, undef, undef, undef, undef] ++ [undef, undef]).toArray, []⟩) (by kernel_rfl) ?_
              refine wp_seq ?_
              refine wp_seq ?_
              refine lwp_list ?_
              refine ls_move (x := x3) (by kernel_rfl) (by kernel_rfl) ?_
              refine ls_p (d := some 72) (by kernel_rfl) (by kernel_rfl) (p_not (by kernel_rfl) H) (fun x72 H => ?_)
              refine ls_nil ?_
              refine then_normal ?_
              refine fr_eq (b := ⟨([x0, x1, x2, x3, undef, undef, undef, undef, (D_2 0), x9, x28, x11, x12, (D_2 1), (D_2 2), (D_2 3), x0, x17, x17, (D 0), (D 1), x21, undef, x23, x3, x25, (D_1 0), x27, x28, x28, x30, x12, x1, x33, x34, x35, (D_2 9), (D_2 10), (D_2 11), (D_2 12), (D_2 13), (D_2 14), (D_2 15), (D_2 16), (D_2 17), (D_2 18), (D_2 19), (D_2 20), (D_2 21), (D_2 22)] ++ [(D_2 23), (D_2 24), (D_2 25), (D_2 26), (D_2 27), (D_2 28), (D_2 29), (D_2 30), (D_2 31), (D_2 32), (D_2 33), (D_2 34), (D_2 35), (D_2 36), (D_2 37), (D_2 38), (D_2 39), (D_2 40), (D_2 41), (D_2 42), (D_2 43), x3, x72, undef, undef, undef, undef, undef, undef, undef, undef, undef, undef, undef, undef, undef, undef, undef, undef, undef, undef, undef, undef, undef, undef, undef, undef, undef, undef, undef] ++ [undef, undef]).toArray, []⟩) (by kernel_rfl) ?_
              refine wp_if rfl H (fun H => ?_) (fun H => ?_)
              · refine wp_seq ?_
                refine lwp_list ?_
                refine ls_move (x := x28) (by kernel_rfl) (by kernel_rfl) ?_
                refine ls_d (d := some 74) (by kernel_rfl) (by kernel_rfl) HA_7 (d_call (by kernel_rfl) (by kernel_rfl) H) (fun x74 h_15 w_17 H HA_17 => ?_)
                refine ls_move (x := x1) (by kernel_rfl) (by kernel_rfl) ?_
                refine ls_p (d := some 76) (by kernel_rfl) (by kernel_rfl) (p_conv Try.underlying5 Try.underlying3 (by kernel_rfl) H) (fun x76 H => ?_)
                refine ls_p (d := some 77) (by kernel_rfl) (by kernel_rfl) (p_rem (by kernel_rfl) (by kernel_rfl) H) (fun x77 H => ?_)
                refine ls_p (d := some 78) (by kernel_rfl) (by kernel_rfl) (p_mul (by kernel_rfl) (by kernel_rfl) H) (fun x78 H => ?_)
                refine ls_fr (b := ⟨([x0, x1, x2, x3, undef, undef, undef, undef, (D_2 0), x9, x28, x11, x12, (D_2 1), (D_2 2), (D_2 3), x0, x17, x17, (D 0), (D 1), x21, undef, x23, x3, x25, (D_1 0), x27, x28, x28, x30, x12, x1, x33, x34, x35, (D_2 9), (D_2 10), (D_2 11), (D_2 12), (D_2 13), (D_2 14), (D_2 15), (D_2 16), (D_2 17), (D_2 18), (D_2 19), (D_2 20), (D_2 21), (D_2 22)] ++ [(D_2 23), (D_2 24), (D_2 25), (D_2 26), (D_2 27), (D_2 28), (D_2 29), (D_2 30), (D_2 31), (D_2 32), (D_2 33), (D_2 34), (D_2 35), (D_2 36), (D_2 37), (D_2 38), (D_2 39), (D_2 40), (D_2 41), (D_2 42), (D_2 43), x3, x72, x28, x74, x1, x76, x77, x78, undef, undef, undef, undef, undef, undef, undef, undef, undef, undef, undef, undef, undef, undef, undef, undef, undef, undef, undef, undef, undef] ++ [undef, undef]).toArray, []⟩) (by kernel_rfl) ?_
                refine ls_move (x := x1) (by kernel_rfl) (by kernel_rfl) ?_
                refine ls_p (d := some 80) (by kernel_rfl) (by kernel_rfl) (p_conv Try.underlying5 Try.underlying3 (by kernel_rfl) H) (fun x80 H => ?_)
                refine ls_p (d := some 81) (by kernel_rfl) (by kernel_rfl) (p_rem (by kernel_rfl) (by kernel_rfl) H) (fun x81 H => ?_)
                refine ls_move (x := x2) (by kernel_rfl) (by kernel_rfl) ?_
                refine ls_d (d := some 83) (by kernel_rfl) (by kernel_rfl) HA_17 (d_call (by kernel_rfl) (by kernel_rfl) H) (fun x83 h_16 w_18 H HA_18 => ?_)
                refine ls_p (d := some 84) (by kernel_rfl) (by kernel_rfl) (p_mul (by kernel_rfl) (by kernel_rfl) H) (fun x84 H => ?_)
                refine ls_fr (b := ⟨([x0, x1, x2, x3, undef, undef, undef, undef, (D_2 0), x9, x28, x11, x12, (D_2 1), (D_2 2), (D_2 3), x0, x17, x17, (D 0), (D 1), x21, undef, x23, x3, x25, (D_1 0), x27, x28, x28, x30, x12, x1, x33, x34, x35, (D_2 9), (D_2 10), (D_2 11), (D_2 12), (D_2 13), (D_2 14), (D_2 15), (D_2 16), (D_2 17), (D_2 18), (D_2 19), (D_2 20), (D_2 21), (D_2 22)] ++ [(D_2 23), (D_2 24), (D_2 25), (D_2 26), (D_2 27), (D_2 28), (D_2 29), (D_2 30), (D_2 31), (D_2 32), (D_2 33), (D_2 34), (D_2 35), (D_2 36), (D_2 37), (D_2 38), (D_2 39), (D_2 40), (D_2 41), (D_2 42), (D_2 43), x3, x72, x28, x74, x1, x76, x77, x78, x1, x80, x81, x2, x83, x84, undef, undef, undef, undef, undef, undef, undef, undef, undef, undef, undef, undef, undef, undef, undef] ++ [undef, undef]).toArray, []⟩) (by kernel_rfl) ?_
                refine ls_p (d := some 85) (by kernel_rfl) (by kernel_rfl) (p_add (by kernel_rfl) (by kernel_rfl) H) (fun x85 H => ?_)
                refine ls_p (d := some 86) (by kernel_rfl) (by kernel_rfl) (p_min (by kernel_rfl) (by kernel_rfl) H) (fun x86 H => ?_)
                refine ls_p (d := some 87) (by kernel_rfl) (by kernel_rfl) (p_sEq (by kernel_rfl) (by kernel_rfl) H) (fun x87 H => ?_)
                refine ls_move (x := x87) (by kernel_rfl) (by kernel_rfl) ?_
                refine ls_andh [(), ()] (fun K a w => ∃ (D_8 : Nat → Value) (x90 : Value) (h_17 : Heap), a = ⟨([x0, x1, x2, x3, undef, undef, undef, undef, (D_2 0), x9, x28, x11, x12, (D_2 1), (D_2 2), (D_2 3), x0, x17, x17, (D 0), (D 1), x21, undef, x23, x3, x25, (D_1 0), x27, x28, x28, x30, x12, x1, x33, x34, x35, (D_2 9), (D_2 10), (D_2 11), (D_2 12), (D_2 13), (D_2 14), (D_2 15), (D_2 16), (D_2 17), (D_2 18), (D_2 19), (D_2 20), (D_2 21), (D_2 22)] ++ [(D_2 23), (D_2 24), (D_2 25), (D_2 26), (D_2 27), (D_2 28), (D_2 29), (D_2 30), (D_2 31), (D_2 32), (D_2 33), (D_2 34), (D_2 35), (D_2 36), (D_2 37), (D_2 38), (D_2 39), (D_2 40), (D_2 41), (D_2 42), (D_2 43), x3, x72, x28, x74, x1, x76, x77, x78, x1, x80, x81, x2, x83, x84, x85, x86, x87, x87, (D_8 0), x90, undef, undef, undef, undef, undef, undef, undef, undef, undef] ++ [undef, undef]).toArray, []⟩ ∧ At w0 w h_17 ∧ K x90 h_17) H (fun hb_2 H => ?_) (fun hb_2 H => ?_) ?_
                · refine ls_d (d := some 89) (by kernel_rfl) (by rw [hb_2]; kernel_rfl) HA_18 (d_call (by kernel_rfl) (by kernel_rfl) H) (fun x89 h_18 w_20 H HA_20 => ?_)
                  refine ls_pick_t (x := x89) (by kernel_rfl) (by rw [hb_2]; kernel_rfl) (by kernel_rfl) ?_
                  refine ls_nil ?_
                  refine then_normal ?_
                  exact ⟨(fun i => ([x89]).getD i undef), x89, h_18, by kernel_rfl, HA_20, H⟩
                · refine ls_skip (d := some 89) (by kernel_rfl) (by rw [hb_2]; kernel_rfl) ?_
                  refine ls_pick_f (y := (.bool false)) (by kernel_rfl) (by rw [hb_2]; kernel_rfl) (by kernel_rfl) ?_
                  refine ls_nil ?_
                  refine then_normal ?_
                  exact ⟨(fun i => ([undef]).getD i undef), (.bool false), h_16, by kernel_rfl, HA_18, H⟩
                · rintro _ w_19 ⟨D_8, x90, h_17, rfl, HA_19, H⟩
                  refine ls_assign (x := x90) (by kernel_rfl) (by kernel_rfl) ?_
                  refine ls_nil ?_
                  refine then_normal ?_
                  refine fr_eq (b := ⟨([x0, x1, x2, x3, undef, undef, undef, undef, x90, x9, x28, x11, x12, (D_2 1), (D_2 2), (D_2 3), x0, x17, x17, (D 0), (D 1), x21, undef, x23, x3, x25, (D_1 0), x27, x28, x28, x30, x12, x1, x33, x34, x35, (D_2 9), (D_2 10), (D_2 11), (D_2 12), (D_2 13), (D_2 14), (D_2 15), (D_2 16), (D_2 17), (D_2 18), (D_2 19), (D_2 20), (D_2 21), (D_2 22)] ++ [(D_2 23), (D_2 24), (D_2 25), (D_2 26), (D_2 27), (D_2 28), (D_2 29), (D_2 30), (D_2 31), (D_2 32), (D_2 33), (D_2 34), (D_2 35), (D_2 36), (D_2 37), (D_2 38), (D_2 39), (D_2 40), (D_2 41), (D_2 42), (D_2 43), x3, x72, x28, x74, x1, x76, x77, x78, x1, x80, x81, x2, x83, x84, x85, x86, x87, x87, (D_8 0), x90, undef, undef, undef, undef, undef, undef, undef, undef, undef] ++ [undef, undef]).toArray, []⟩) (by kernel_rfl) ?_
                  refine wp_ret ?_
                  refine then_ret ?_
                  exact end1 (Try.results4) (by kernel_rfl) (by kernel_rfl) HA_19 H _ (.inr rfl)
              · refine wp_skip ?_
                refine then_normal ?_
                refine fr_eq (b := ⟨([x0, x1, x2, x3, undef, undef, undef, undef, (D_2 0), x9, x28, x11, x12, (D_2 1), (D_2 2), (D_2 3), x0, x17, x17, (D 0), (D 1), x21, undef, x23, x3, x25, (D_1 0), x27, x28, x28, x30, x12, x1, x33, x34, x35, (D_2 9), (D_2 10), (D_2 11), (D_2 12), (D_2 13), (D_2 14), (D_2 15), (D_2 16), (D_2 17), (D_2 18), (D_2 19), (D_2 20), (D_2 21), (D_2 22)] ++ [(D_2 23), (D_2 24), (D_2 25), (D_2 26), (D_2 27), (D_2 28), (D_2 29), (D_2 30), (D_2 31), (D_2 32), (D_2 33), (D_2 34), (D_2 35), (D_2 36), (D_2 37), (D_2 38), (D_2 39), (D_2 40), (D_2 41), (D_2 42), (D_2 43), x3, x72, undef, undef, undef, undef, undef, undef, undef, undef, undef, undef, undef, undef, undef, undef, undef, undef, undef, undef, undef, undef, undef, undef, undef, undef, undef, undef, undef] ++ [undef, undef]).toArray, []⟩) (by kernel_rfl) ?_
                refine wp_seq ?_
                refine lwp_list ?_
                refine ls_move (x := x1) (by kernel_rfl) (by kernel_rfl) ?_
                refine ls_p (d := some 92) (by kernel_rfl) (by kernel_rfl) (p_conv Try.underlying5 Try.underlying3 (by kernel_rfl) H) (fun x92 H => ?_)
                refine ls_p (d := some 93) (by kernel_rfl) (by kernel_rfl) (p_rem (by kernel_rfl) (by kernel_rfl) H) (fun x93 H => ?_)
                refine ls_p (d := some 94) (by kernel_rfl) (by kernel_rfl) (p_sEq (by kernel_rfl) (by kernel_rfl) H) (fun x94 H => ?_)
                refine ls_move (x := x94) (by kernel_rfl) (by kernel_rfl) ?_
                refine ls_or [(), (), ()] (fun K a w => ∃ (D_9 : Nat → Value) (x98 : Value), a = ⟨([x0, x1, x2, x3, undef, undef, undef, undef, (D_2 0), x9, x28, x11, x12, (D_2 1), (D_2 2), (D_2 3), x0, x17, x17, (D 0), (D 1), x21, undef, x23, x3, x25, (D_1 0), x27, x28, x28, x30, x12, x1, x33, x34, x35, (D_2 9), (D_2 10), (D_2 11), (D_2 12), (D_2 13), (D_2 14), (D_2 15), (D_2 16), (D_2 17), (D_2 18), (D_2 19), (D_2 20), (D_2 21), (D_2 22)] ++ [(D_2 23), (D_2 24), (D_2 25), (D_2 26), (D_2 27), (D_2 28), (D_2 29), (D_2 30), (D_2 31), (D_2 32), (D_2 33), (D_2 34), (D_2 35), (D_2 36), (D_2 37), (D_2 38), (D_2 39), (D_2 40), (D_2 41), (D_2 42), (D_2 43), x3, x72, undef, undef, undef, undef, undef, undef, undef, undef, undef, undef, undef, undef, undef, undef, undef, undef, undef, undef, x1, x92, x93, x94, x94, (D_9 0), (D_9 1), x98, undef] ++ [undef, undef]).toArray, []⟩ ∧ At w0 w h_6 ∧ K x98) H (fun hb_4 H => ?_) (fun hb_4 H => ?_) ?_
                · refine ls_move (x := x11) (by rw [hb_4]; kernel_rfl) (by kernel_rfl) ?_
                  refine ls_fr (b := ⟨([x0, x1, x2, x3, undef, undef, undef, undef, (D_2 0), x9, x28, x11, x12, (D_2 1), (D_2 2), (D_2 3), x0, x17, x17, (D 0), (D 1), x21, undef, x23, x3, x25, (D_1 0), x27, x28, x28, x30, x12, x1, x33, x34, x35, (D_2 9), (D_2 10), (D_2 11), (D_2 12), (D_2 13), (D_2 14), (D_2 15), (D_2 16), (D_2 17), (D_2 18), (D_2 19), (D_2 20), (D_2 21), (D_2 22)] ++ [(D_2 23), (D_2 24), (D_2 25), (D_2 26), (D_2 27), (D_2 28), (D_2 29), (D_2 30), (D_2 31), (D_2 32), (D_2 33), (D_2 34), (D_2 35), (D_2 36), (D_2 37), (D_2 38), (D_2 39), (D_2 40), (D_2 41), (D_2 42), (D_2 43), x3, x72, undef, undef, undef, undef, undef, undef, undef, undef, undef, undef, undef, undef, undef, undef, undef, undef, undef, undef, x1, x92, x93, x94, x94, x11, undef, undef, undef] ++ [undef, undef]).toArray, []⟩) (by kernel_rfl) ?_
                  refine ls_p (d := some 97) (by kernel_rfl) (by rw [hb_4]; kernel_rfl) (p_sGt (by kernel_rfl) (by kernel_rfl) H) (fun x97 H => ?_)
                  refine ls_pick_f (y := x97) (by kernel_rfl) (by rw [hb_4]; kernel_rfl) (by kernel_rfl) ?_
                  refine ls_nil ?_
                  refine then_normal ?_
                  exact ⟨(fun i => ([x11, x97]).getD i undef), x97, by kernel_rfl, HA_7, H⟩
                · refine ls_skip (d := some 96) (by kernel_rfl) (by rw [hb_4]; kernel_rfl) ?_
                  refine ls_fr (b := ⟨([x0, x1, x2, x3, undef, undef, undef, undef, (D_2 0), x9, x28, x11, x12, (D_2 1), (D_2 2), (D_2 3), x0, x17, x17, (D 0), (D 1), x21, undef, x23, x3, x25, (D_1 0), x27, x28, x28, x30, x12, x1, x33, x34, x35, (D_2 9), (D_2 10), (D_2 11), (D_2 12), (D_2 13), (D_2 14), (D_2 15), (D_2 16), (D_2 17), (D_2 18), (D_2 19), (D_2 20), (D_2 21), (D_2 22)] ++ [(D_2 23), (D_2 24), (D_2 25), (D_2 26), (D_2 27), (D_2 28), (D_2 29), (D_2 30), (D_2 31), (D_2 32), (D_2 33), (D_2 34), (D_2 35), (D_2 36), (D_2 37), (D_2 38), (D_2 39), (D_2 40), (D_2 41), (D_2 42), (D_2 43), x3, x72, undef, undef, undef, undef, undef, undef, undef, undef, undef, undef, undef, undef, undef, undef, undef, undef, undef, undef, x1, x92, x93, x94, x94, undef, undef, undef, undef] ++ [undef, undef]).toArray, []⟩) (by kernel_rfl) ?_
                  refine ls_skip (d := some 97) (by kernel_rfl) (by rw [hb_4]; kernel_rfl) ?_
                  refine ls_pick_t (x := (.bool true)) (by kernel_rfl) (by rw [hb_4]; kernel_rfl) (by kernel_rfl) ?_
                  refine ls_nil ?_
                  refine then_normal ?_
                  exact ⟨(fun i => ([undef, undef]).getD i undef), (.bool true), by kernel_rfl, HA_7, H⟩
                · rintro _ w_21 ⟨D_9, x98, rfl, HA_21, H⟩
                  refine ls_move (x := x98) (by kernel_rfl) (by kernel_rfl) ?_
                  refine ls_andh [(), ()] (fun K a w => ∃ (D_10 : Nat → Value) (x101 : Value) (h_19 : Heap), a = ⟨([x0, x1, x2, x3, undef, undef, undef, undef, (D_2 0), x9, x28, x11, x12, (D_2 1), (D_2 2), (D_2 3), x0, x17, x17, (D 0), (D 1), x21, undef, x23, x3, x25, (D_1 0), x27, x28, x28, x30, x12, x1, x33, x34, x35, (D_2 9), (D_2 10), (D_2 11), (D_2 12), (D_2 13), (D_2 14), (D_2 15), (D_2 16), (D_2 17), (D_2 18), (D_2 19), (D_2 20), (D_2 21), (D_2 22)] ++ [(D_2 23), (D_2 24), (D_2 25), (D_2 26), (D_2 27), (D_2 28), (D_2 29), (D_2 30), (D_2 31), (D_2 32), (D_2 33), (D_2 34), (D_2 35), (D_2 36), (D_2 37), (D_2 38), (D_2 39), (D_2 40), (D_2 41), (D_2 42), (D_2 43), x3, x72, undef, undef, undef, undef, undef, undef, undef, undef, undef, undef, undef, undef, undef, undef, undef, undef, undef, undef, x1, x92, x93, x94, x94, (D_9 0), (D_9 1), x98, x98] ++ [(D_10 0), x101]).toArray, []⟩ ∧ At w0 w h_19 ∧ K x101 h_19) H (fun hb_3 H => ?_) (fun hb_3 H => ?_) ?_
                  · refine ls_d (d := some 100) (by kernel_rfl) (by rw [hb_3]; kernel_rfl) HA_21 (d_call (by kernel_rfl) (by kernel_rfl) H) (fun x100 h_20 w_23 H HA_23 => ?_)
                    refine ls_pick_t (x := x100) (by kernel_rfl) (by rw [hb_3]; kernel_rfl) (by kernel_rfl) ?_
                    refine ls_nil ?_
                    refine then_normal ?_
                    exact ⟨(fun i => ([x100]).getD i undef), x100, h_20, by kernel_rfl, HA_23, H⟩
                  · refine ls_skip (d := some 100) (by kernel_rfl) (by rw [hb_3]; kernel_rfl) ?_
                    refine ls_pick_f (y := (.bool false)) (by kernel_rfl) (by rw [hb_3]; kernel_rfl) (by kernel_rfl) ?_
                    refine ls_nil ?_
                    refine then_normal ?_
                    exact ⟨(fun i => ([undef]).getD i undef), (.bool false), h_6, by kernel_rfl, HA_21, H⟩
                  · rintro _ w_22 ⟨D_10, x101, h_19, rfl, HA_22, H⟩
                    refine ls_assign (x := x101) (by kernel_rfl) (by kernel_rfl) ?_
                    refine ls_nil ?_
                    refine then_normal ?_
                    refine fr_eq (b := ⟨([x0, x1, x2, x3, undef, undef, undef, undef, x101, x9, x28, x11, x12, (D_2 1), (D_2 2), (D_2 3), x0, x17, x17, (D 0), (D 1), x21, undef, x23, x3, x25, (D_1 0), x27, x28, x28, x30, x12, x1, x33, x34, x35, (D_2 9), (D_2 10), (D_2 11), (D_2 12), (D_2 13), (D_2 14), (D_2 15), (D_2 16), (D_2 17), (D_2 18), (D_2 19), (D_2 20), (D_2 21), (D_2 22)] ++ [(D_2 23), (D_2 24), (D_2 25), (D_2 26), (D_2 27), (D_2 28), (D_2 29), (D_2 30), (D_2 31), (D_2 32), (D_2 33), (D_2 34), (D_2 35), (D_2 36), (D_2 37), (D_2 38), (D_2 39), (D_2 40), (D_2 41), (D_2 42), (D_2 43), x3, x72, undef, undef, undef, undef, undef, undef, undef, undef, undef, undef, undef, undef, undef, undef, undef, undef, undef, undef, x1, x92, x93, x94, x94, (D_9 0), (D_9 1), x98, x98] ++ [(D_10 0), x101]).toArray, []⟩) (by kernel_rfl) ?_
                    refine wp_ret ?_
                    exact end1 (Try.results4) (by kernel_rfl) (by kernel_rfl) HA_22 H _ (.inr rfl)

end Go.Proofs.Ytlcklnbgknhhkaa
