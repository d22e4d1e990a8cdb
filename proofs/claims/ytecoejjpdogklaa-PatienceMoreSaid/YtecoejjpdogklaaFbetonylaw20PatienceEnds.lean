/- The shallow reading of one function, and that the function does it. Written by a program. -/
import Derived.Test.YtecoejjpdogklaaFnC
set_option linter.unusedVariables false
namespace Go.Proofs.Ytecoejjpdogklaa
open Go Go.HW

def betonylaw20_PatienceEnds_l1 (R : Value → Heap → Prop) (x1 x2 x3 x19 : Value) (next : Value → Heap → Prop) (x10 : Value) (h_7 : Heap) : Prop :=
  sConv .i64 x1 fun x47 =>
  sLt x10 x47 fun x48 =>
  sIf x48 (patience_Wait_Tick_c x19 h_7 fun x52 h_8 => 
  sAdd .i64 x10 (.int .i64 1) fun x50 =>
  next x50 h_8) (patience_Wait_Done_c x19 h_7 fun x54 h_9 => 
  sAndH x54 h_9 (fun k_3 =>
  patience_Wait_Count_c x19 h_9 fun x57 h_13 => 
  sConv .i64 x3 fun x59 =>
  sConv .i64 x2 fun x61 =>
  sMin x59 x61 fun x62 =>
  sEq x57 x62 fun x63 =>
  k_3 x63 h_13) fun x64 h_10 =>
  sAndH x64 h_10 (fun k_2 =>
  betonylaw20_awake_c  h_10 fun x66 h_12 => 
  k_2 x66 h_12) fun x67 h_11 =>
  R x67 h_11)
def betonylaw20_PatienceEnds_S (x0 x1 x2 x3 : Value) (h : Heap) (R : Value → Heap → Prop) : Prop :=
  sConv .i64 x0 fun x12 =>
  sConv .i64 x1 fun x14 =>
  sConv .i64 x2 fun x16 =>
  sConv .i64 x3 fun x18 =>
  patience_New_c x12 x14 x16 x18 h fun x19 h => 
  sEqlNil x19 fun x21 =>
  sIf x21 (R (.bool false) h) (sEq x2 (.int .u16 0) fun x23 =>
  sIf x23 (patience_Wait_Done_c x19 h fun x25 h_1 => 
  sAndH x25 h_1 (fun k_1 =>
  patience_Wait_Count_c x19 h_1 fun x28 h_5 => 
  sEq x28 (.int .i64 0) fun x29 =>
  k_1 x29 h_5) fun x30 h_2 =>
  sAndH x30 h_2 (fun k =>
  betonylaw20_awake_c  h_2 fun x32 h_4 => 
  k x32 h_4) fun x33 h_3 =>
  R x33 h_3) (sEq x1 (.int .u8 0) fun x35 =>
  sOr x35 (fun k_4 =>
  sGt x0 (.int .u8 0) fun x38 =>
  sAnd x38 (fun k_5 =>
  sEq x3 (.int .u8 0) fun x41 =>
  k_5 x41) fun x42 =>
  k_4 x42) fun x43 =>
  sIf x43 (betonylaw20_awake_c  h fun x44 h_6 => 
  R x44 h_6) (sLoop (S := Value) (fun next s h => betonylaw20_PatienceEnds_l1 R x1 x2 x3 x19 (fun x10' h => next x10' h) s h) (.int .i64 0) h)))
set_option maxRecDepth 100000 in
theorem betonylaw20_PatienceEnds_runs {x0 x1 x2 x3 : Value} {h : Heap} {R : Value → Heap → Prop} (H : betonylaw20_PatienceEnds_S x0 x1 x2 x3 h R) : betonylaw20_PatienceEnds_c x0 x1 x2 x3 h R := by
  unfold betonylaw20_PatienceEnds_S at H
  refine runs_of (b := ⟨([x0, x1, x2, x3, undef, undef, undef, undef, undef, undef, undef, undef, undef, undef, undef, undef, undef, undef, undef, undef, undef, undef, undef, undef, undef, undef, undef, undef, undef, undef, undef, undef, undef, undef, undef, undef, undef, undef, undef, undef, undef, undef, undef, undef, undef, undef, undef, undef, undef, undef] ++ [undef, undef, undef, undef, undef, undef, undef, undef, undef, undef, undef, undef, undef, undef, undef, undef, undef, undef]).toArray, []⟩) Try.call4 Try.func4 rfl (by kernel_rfl) (fun w0 HA => ?_)
  refine wp_seq ?_
  refine lwp_list ?_
  refine ls_assign (x := (.bool false)) (by kernel_rfl) (by kernel_rfl) ?_
  refine ls_nil ?_
  refine then_normal ?_
  refine fr_eq (b := ⟨([x0, x1, x2, x3, undef, undef, undef, undef, (.bool false), undef, undef, undef, undef, undef, undef, undef, undef, undef, undef, undef, undef, undef, undef, undef, undef, undef, undef, undef, undef, undef, undef, undef, undef, undef, undef, undef, undef, undef, undef, undef, undef, undef, undef, undef, undef, undef, undef, undef, undef, undef] ++ [undef, undef, undef, undef, undef, undef, undef, undef, undef, undef, undef, undef, undef, undef, undef, undef, undef, undef]).toArray, []⟩) (by kernel_rfl) ?_
  refine wp_seq ?_
  refine lwp_list ?_
  refine ls_move (x := x0) (by kernel_rfl) (by kernel_rfl) ?_
  refine ls_p (d := some 12) (by kernel_rfl) (by kernel_rfl) (p_conv Try.underlying5 Try.underlying3 (by kernel_rfl) H) (fun x12 H => ?_)
  refine ls_move (x := x1) (by kernel_rfl) (by kernel_rfl) ?_
  refine ls_p (d := some 14) (by kernel_rfl) (by kernel_rfl) (p_conv Try.underlying5 Try.underlying3 (by kernel_rfl) H) (fun x14 H => ?_)
  refine ls_move (x := x2) (by kernel_rfl) (by kernel_rfl) ?_
  refine ls_p (d := some 16) (by kernel_rfl) (by kernel_rfl) (p_conv Try.underlying30 Try.underlying3 (by kernel_rfl) H) (fun x16 H => ?_)
  refine ls_fr (b := ⟨([x0, x1, x2, x3, undef, undef, undef, undef, (.bool false), undef, undef, x0, x12, x1, x14, x2, x16, undef, undef, undef, undef, undef, undef, undef, undef, undef, undef, undef, undef, undef, undef, undef, undef, undef, undef, undef, undef, undef, undef, undef, undef, undef, undef, undef, undef, undef, undef, undef, undef, undef] ++ [undef, undef, undef, undef, undef, undef, undef, undef, undef, undef, undef, undef, undef, undef, undef, undef, undef, undef]).toArray, []⟩) (by kernel_rfl) ?_
  refine ls_move (x := x3) (by kernel_rfl) (by kernel_rfl) ?_
  refine ls_p (d := some 18) (by kernel_rfl) (by kernel_rfl) (p_conv Try.underlying5 Try.underlying3 (by kernel_rfl) H) (fun x18 H => ?_)
  refine ls_d (d := some 19) (by kernel_rfl) (by kernel_rfl) HA (d_call (by kernel_rfl) (by kernel_rfl) H) (fun x19 h w H HA => ?_)
  refine ls_assign (x := x19) (by kernel_rfl) (by kernel_rfl) ?_
  refine ls_nil ?_
  refine then_normal ?_
  refine fr_eq (b := ⟨([x0, x1, x2, x3, undef, undef, undef, undef, (.bool false), x19, undef, x0, x12, x1, x14, x2, x16, x3, x18, x19, undef, undef, undef, undef, undef, undef, undef, undef, undef, undef, undef, undef, undef, undef, undef, undef, undef, undef, undef, undef, undef, undef, undef, undef, undef, undef, undef, undef, undef, undef] ++ [undef, undef, undef, undef, undef, undef, undef, undef, undef, undef, undef, undef, undef, undef, undef, undef, undef, undef]).toArray, []⟩) (by kernel_rfl) ?_
  refine wp_seq ?_
  refine wp_seq ?_
  refine lwp_list ?_
  refine ls_move (x := x19) (by kernel_rfl) (by kernel_rfl) ?_
  refine ls_p (d := some 21) (by kernel_rfl) (by kernel_rfl) (p_eqlNil Try.underlying24 (by kernel_rfl) (by kernel_rfl) H) (fun x21 H => ?_)
  refine ls_nil ?_
  refine then_normal ?_
  refine fr_eq (b := ⟨([x0, x1, x2, x3, undef, undef, undef, undef, (.bool false), x19, undef, x0, x12, x1, x14, x2, x16, x3, x18, x19, x19, x21, undef, undef, undef, undef, undef, undef, undef, undef, undef, undef, undef, undef, undef, undef, undef, undef, undef, undef, undef, undef, undef, undef, undef, undef, undef, undef, undef, undef] ++ [undef, undef, undef, undef, undef, undef, undef, undef, undef, undef, undef, undef, undef, undef, undef, undef, undef, undef]).toArray, []⟩) (by kernel_rfl) ?_
  refine wp_if rfl H (fun H => ?_) (fun H => ?_)
  · refine wp_seq ?_
    refine lwp_list ?_
    refine ls_assign (x := (.bool false)) (by kernel_rfl) (by kernel_rfl) ?_
    refine ls_nil ?_
    refine then_normal ?_
    refine fr_eq (b := ⟨([x0, x1, x2, x3, undef, undef, undef, undef, (.bool false), x19, undef, x0, x12, x1, x14, x2, x16, x3, x18, x19, x19, x21, undef, undef, undef, undef, undef, undef, undef, undef, undef, undef, undef, undef, undef, undef, undef, undef, undef, undef, undef, undef, undef, undef, undef, undef, undef, undef, undef, undef] ++ [undef, undef, undef, undef, undef, undef, undef, undef, undef, undef, undef, undef, undef, undef, undef, undef, undef, undef]).toArray, []⟩) (by kernel_rfl) ?_
    refine wp_ret ?_
    refine then_ret ?_
    exact end1 (Try.results4) (by kernel_rfl) (by kernel_rfl) HA H _ (.inr rfl)
  · refine wp_skip ?_
    refine then_normal ?_
    refine fr_eq (b := ⟨([x0, x1, x2, x3, undef, undef, undef, undef, (.bool false), x19, undef, x0, x12, x1, x14, x2, x16, x3, x18, x19, x19, x21, undef, undef, undef, undef, undef, undef, undef, undef, undef, undef, undef, undef, undef, undef, undef, undef, undef, undef, undef, undef, undef, undef, undef, undef, undef, undef, undef, undef] ++ [undef, undef, undef, undef, undef, undef, undef, undef, undef, undef, undef, undef, undef, undef, undef, undef, undef, undef]).toArray, []⟩) (by kernel_rfl) ?_
    refine wp_seq ?_
    refine wp_seq ?_
    refine lwp_list ?_
    refine ls_move (x := x2) (by kernel_rfl) (by kernel_rfl) ?_
    refine ls_p (d := some 23) (by kernel_rfl) (by kernel_rfl) (p_sEq (by kernel_rfl) (by kernel_rfl) H) (fun x23 H => ?_)
    refine ls_nil ?_
    refine then_normal ?_
    refine fr_eq (b := ⟨([x0, x1, x2, x3, undef, undef, undef, undef, (.bool false), x19, undef, x0, x12, x1, x14, x2, x16, x3, x18, x19, x19, x21, x2, x23, undef, undef, undef, undef, undef, undef, undef, undef, undef, undef, undef, undef, undef, undef, undef, undef, undef, undef, undef, undef, undef, undef, undef, undef, undef, undef] ++ [undef, undef, undef, undef, undef, undef, undef, undef, undef, undef, undef, undef, undef, undef, undef, undef, undef, undef]).toArray, []⟩) (by kernel_rfl) ?_
    refine wp_if rfl H (fun H => ?_) (fun H => ?_)
    · refine wp_seq ?_
      refine lwp_list ?_
      refine ls_move (x := x19) (by kernel_rfl) (by kernel_rfl) ?_
      refine ls_d (d := some 25) (by kernel_rfl) (by kernel_rfl) HA (d_call (by kernel_rfl) (by kernel_rfl) H) (fun x25 h_1 w_1 H HA_1 => ?_)
      refine ls_move (x := x25) (by kernel_rfl) (by kernel_rfl) ?_
      refine ls_andh [(), (), (), ()] (fun K a w => ∃ (D : Nat → Value) (x30 : Value) (h_2 : Heap), a = ⟨([x0, x1, x2, x3, undef, undef, undef, undef, (.bool false), x19, undef, x0, x12, x1, x14, x2, x16, x3, x18, x19, x19, x21, x2, x23, x19, x25, x25, (D 0), (D 1), (D 2), x30, undef, undef, undef, undef, undef, undef, undef, undef, undef, undef, undef, undef, undef, undef, undef, undef, undef, undef, undef] ++ [undef, undef, undef, undef, undef, undef, undef, undef, undef, undef, undef, undef, undef, undef, undef, undef, undef, undef]).toArray, []⟩ ∧ At w0 w h_2 ∧ K x30 h_2) H (fun hb_1 H => ?_) (fun hb_1 H => ?_) ?_
      · refine ls_move (x := x19) (by rw [hb_1]; kernel_rfl) (by kernel_rfl) ?_
        refine ls_d (d := some 28) (by kernel_rfl) (by rw [hb_1]; kernel_rfl) HA_1 (d_call (by kernel_rfl) (by kernel_rfl) H) (fun x28 h_5 w_5 H HA_5 => ?_)
        refine ls_p (d := some 29) (by kernel_rfl) (by rw [hb_1]; kernel_rfl) (p_sEq (by kernel_rfl) (by kernel_rfl) H) (fun x29 H => ?_)
        refine ls_fr (b := ⟨([x0, x1, x2, x3, undef, undef, undef, undef, (.bool false), x19, undef, x0, x12, x1, x14, x2, x16, x3, x18, x19, x19, x21, x2, x23, x19, x25, x25, x19, x28, x29, undef, undef, undef, undef, undef, undef, undef, undef, undef, undef, undef, undef, undef, undef, undef, undef, undef, undef, undef, undef] ++ [undef, undef, undef, undef, undef, undef, undef, undef, undef, undef, undef, undef, undef, undef, undef, undef, undef, undef]).toArray, []⟩) (by kernel_rfl) ?_
        refine ls_pick_t (x := x29) (by kernel_rfl) (by rw [hb_1]; kernel_rfl) (by kernel_rfl) ?_
        refine ls_nil ?_
        refine then_normal ?_
        exact ⟨(fun i => ([x19, x28, x29]).getD i undef), x29, h_5, by kernel_rfl, HA_5, H⟩
      · refine ls_skip (d := some 27) (by kernel_rfl) (by rw [hb_1]; kernel_rfl) ?_
        refine ls_skip (d := some 28) (by kernel_rfl) (by rw [hb_1]; kernel_rfl) ?_
        refine ls_skip (d := some 29) (by kernel_rfl) (by rw [hb_1]; kernel_rfl) ?_
        refine ls_fr (b := ⟨([x0, x1, x2, x3, undef, undef, undef, undef, (.bool false), x19, undef, x0, x12, x1, x14, x2, x16, x3, x18, x19, x19, x21, x2, x23, x19, x25, x25, undef, undef, undef, undef, undef, undef, undef, undef, undef, undef, undef, undef, undef, undef, undef, undef, undef, undef, undef, undef, undef, undef, undef] ++ [undef, undef, undef, undef, undef, undef, undef, undef, undef, undef, undef, undef, undef, undef, undef, undef, undef, undef]).toArray, []⟩) (by kernel_rfl) ?_
        refine ls_pick_f (y := (.bool false)) (by kernel_rfl) (by rw [hb_1]; kernel_rfl) (by kernel_rfl) ?_
        refine ls_nil ?_
        refine then_normal ?_
        exact ⟨(fun i => ([undef, undef, undef]).getD i undef), (.bool false), h_1, by kernel_rfl, HA_1, H⟩
      · rintro _ w_2 ⟨D, x30, h_2, rfl, HA_2, H⟩
        refine ls_move (x := x30) (by kernel_rfl) (by kernel_rfl) ?_
        refine ls_andh [(), ()] (fun K a w => ∃ (D_1 : Nat → Value) (x33 : Value) (h_3 : Heap), a = ⟨([x0, x1, x2, x3, undef, undef, undef, undef, (.bool false), x19, undef, x0, x12, x1, x14, x2, x16, x3, x18, x19, x19, x21, x2, x23, x19, x25, x25, (D 0), (D 1), (D 2), x30, x30, (D_1 0), x33, undef, undef, undef, undef, undef, undef, undef, undef, undef, undef, undef, undef, undef, undef, undef, undef] ++ [undef, undef, undef, undef, undef, undef, undef, undef, undef, undef, undef, undef, undef, undef, undef, undef, undef, undef]).toArray, []⟩ ∧ At w0 w h_3 ∧ K x33 h_3) H (fun hb H => ?_) (fun hb H => ?_) ?_
        · refine ls_d (d := some 32) (by kernel_rfl) (by rw [hb]; kernel_rfl) HA_2 (d_call (by kernel_rfl) (by kernel_rfl) H) (fun x32 h_4 w_4 H HA_4 => ?_)
          refine ls_pick_t (x := x32) (by kernel_rfl) (by rw [hb]; kernel_rfl) (by kernel_rfl) ?_
          refine ls_nil ?_
          refine then_normal ?_
          exact ⟨(fun i => ([x32]).getD i undef), x32, h_4, by kernel_rfl, HA_4, H⟩
        · refine ls_skip (d := some 32) (by kernel_rfl) (by rw [hb]; kernel_rfl) ?_
          refine ls_pick_f (y := (.bool false)) (by kernel_rfl) (by rw [hb]; kernel_rfl) (by kernel_rfl) ?_
          refine ls_nil ?_
          refine then_normal ?_
          exact ⟨(fun i => ([undef]).getD i undef), (.bool false), h_2, by kernel_rfl, HA_2, H⟩
        · rintro _ w_3 ⟨D_1, x33, h_3, rfl, HA_3, H⟩
          refine ls_assign (x := x33) (by kernel_rfl) (by kernel_rfl) ?_
          refine ls_nil ?_
          refine then_normal ?_
          refine fr_eq (b := ⟨([x0, x1, x2, x3, undef, undef, undef, undef, x33, x19, undef, x0, x12, x1, x14, x2, x16, x3, x18, x19, x19, x21, x2, x23, x19, x25, x25, (D 0), (D 1), (D 2), x30, x30, (D_1 0), x33, undef, undef, undef, undef, undef, undef, undef, undef, undef, undef, undef, undef, undef, undef, undef, undef] ++ [undef, undef, undef, undef, undef, undef, undef, undef, undef, undef, undef, undef, undef, undef, undef, undef, undef, undef]).toArray, []⟩) (by kernel_rfl) ?_
          refine wp_ret ?_
          refine then_ret ?_
          exact end1 (Try.results4) (by kernel_rfl) (by kernel_rfl) HA_3 H _ (.inr rfl)
    · refine wp_skip ?_
      refine then_normal ?_
      refine fr_eq (b := ⟨([x0, x1, x2, x3, undef, undef, undef, undef, (.bool false), x19, undef, x0, x12, x1, x14, x2, x16, x3, x18, x19, x19, x21, x2, x23, undef, undef, undef, undef, undef, undef, undef, undef, undef, undef, undef, undef, undef, undef, undef, undef, undef, undef, undef, undef, undef, undef, undef, undef, undef, undef] ++ [undef, undef, undef, undef, undef, undef, undef, undef, undef, undef, undef, undef, undef, undef, undef, undef, undef, undef]).toArray, []⟩) (by kernel_rfl) ?_
      refine wp_seq ?_
      refine wp_seq ?_
      refine lwp_list ?_
      refine ls_move (x := x1) (by kernel_rfl) (by kernel_rfl) ?_
      refine ls_p (d := some 35) (by kernel_rfl) (by kernel_rfl) (p_sEq (by kernel_rfl) (by kernel_rfl) H) (fun x35 H => ?_)
      refine ls_move (x := x35) (by kernel_rfl) (by kernel_rfl) ?_
      refine ls_or [(), (), (), (), (), (), ()] (fun K a w => ∃ (D_2 : Nat → Value) (x43 : Value), a = ⟨([x0, x1, x2, x3, undef, undef, undef, undef, (.bool false), x19, undef, x0, x12, x1, x14, x2, x16, x3, x18, x19, x19, x21, x2, x23, undef, undef, undef, undef, undef, undef, undef, undef, undef, undef, x1, x35, x35, (D_2 0), (D_2 1), (D_2 2), (D_2 3), (D_2 4), (D_2 5), x43, undef, undef, undef, undef, undef, undef] ++ [undef, undef, undef, undef, undef, undef, undef, undef, undef, undef, undef, undef, undef, undef, undef, undef, undef, undef]).toArray, []⟩ ∧ At w0 w h ∧ K x43) H (fun hb_4 H => ?_) (fun hb_4 H => ?_) ?_
      · refine ls_move (x := x0) (by rw [hb_4]; kernel_rfl) (by kernel_rfl) ?_
        refine ls_p (d := some 38) (by kernel_rfl) (by rw [hb_4]; kernel_rfl) (p_sGt (by kernel_rfl) (by kernel_rfl) H) (fun x38 H => ?_)
        refine ls_move (x := x38) (by rw [hb_4]; kernel_rfl) (by kernel_rfl) ?_
        refine ls_fr (b := ⟨([x0, x1, x2, x3, undef, undef, undef, undef, (.bool false), x19, undef, x0, x12, x1, x14, x2, x16, x3, x18, x19, x19, x21, x2, x23, undef, undef, undef, undef, undef, undef, undef, undef, undef, undef, x1, x35, x35, x0, x38, x38, undef, undef, undef, undef, undef, undef, undef, undef, undef, undef] ++ [undef, undef, undef, undef, undef, undef, undef, undef, undef, undef, undef, undef, undef, undef, undef, undef, undef, undef]).toArray, []⟩) (by kernel_rfl) ?_
        refine ls_and [(), (), ()] (fun K a w => ∃ (D_6 : Nat → Value) (x42 : Value), a = ⟨([x0, x1, x2, x3, undef, undef, undef, undef, (.bool false), x19, undef, x0, x12, x1, x14, x2, x16, x3, x18, x19, x19, x21, x2, x23, undef, undef, undef, undef, undef, undef, undef, undef, undef, undef, x1, x35, x35, x0, x38, x38, (D_6 0), (D_6 1), x42, undef, undef, undef, undef, undef, undef, undef] ++ [undef, undef, undef, undef, undef, undef, undef, undef, undef, undef, undef, undef, undef, undef, undef, undef, undef, undef]).toArray, []⟩ ∧ At w0 w h ∧ K x42) H (fun hb_5 H => ?_) (fun hb_5 H => ?_) ?_
        · refine ls_move (x := x3) (by rw [hb_5]; kernel_rfl) (by kernel_rfl) ?_
          refine ls_p (d := some 41) (by kernel_rfl) (by rw [hb_5]; kernel_rfl) (p_sEq (by kernel_rfl) (by kernel_rfl) H) (fun x41 H => ?_)
          refine ls_pick_t (x := x41) (by rw [hb_4]; kernel_rfl) (by rw [hb_5]; kernel_rfl) (by kernel_rfl) ?_
          refine ls_nil ?_
          refine then_normal ?_
          exact ⟨(fun i => ([x3, x41]).getD i undef), x41, by kernel_rfl, HA, H⟩
        · refine ls_skip (d := some 40) (by kernel_rfl) (by rw [hb_5]; kernel_rfl) ?_
          refine ls_skip (d := some 41) (by kernel_rfl) (by rw [hb_5]; kernel_rfl) ?_
          refine ls_pick_f (y := (.bool false)) (by rw [hb_4]; kernel_rfl) (by rw [hb_5]; kernel_rfl) (by kernel_rfl) ?_
          refine ls_nil ?_
          refine then_normal ?_
          exact ⟨(fun i => ([undef, undef]).getD i undef), (.bool false), by kernel_rfl, HA, H⟩
        · rintro _ w_15 ⟨D_6, x42, rfl, HA_15, H⟩
          refine ls_pick_f (y := x42) (by kernel_rfl) (by rw [hb_4]; kernel_rfl) (by kernel_rfl) ?_
          refine ls_nil ?_
          refine then_normal ?_
          exact ⟨(fun i => ([x0, x38, x38, (D_6 0), (D_6 1), x42]).getD i undef), x42, by kernel_rfl, HA_15, H⟩
      · refine ls_skip (d := some 37) (by kernel_rfl) (by rw [hb_4]; kernel_rfl) ?_
        refine ls_skip (d := some 38) (by kernel_rfl) (by rw [hb_4]; kernel_rfl) ?_
        refine ls_skip (d := some 39) (by kernel_rfl) (by rw [hb_4]; kernel_rfl) ?_
        refine ls_fr (b := ⟨([x0, x1, x2, x3, undef, undef, undef, undef, (.bool false), x19, undef, x0, x12, x1, x14, x2, x16, x3, x18, x19, x19, x21, x2, x23, undef, undef, undef, undef, undef, undef, undef, undef, undef, undef, x1, x35, x35, undef, undef, undef, undef, undef, undef, undef, undef, undef, undef, undef, undef, undef] ++ [undef, undef, undef, undef, undef, undef, undef, undef, undef, undef, undef, undef, undef, undef, undef, undef, undef, undef]).toArray, []⟩) (by kernel_rfl) ?_
        refine ls_skip (d := some 40) (by kernel_rfl) (by kernel_rfl) ?_
        refine ls_skip (d := some 41) (by kernel_rfl) (by kernel_rfl) ?_
        refine ls_skip (d := some 42) (by kernel_rfl) (by rw [hb_4]; kernel_rfl) ?_
        refine ls_pick_t (x := (.bool true)) (by kernel_rfl) (by rw [hb_4]; kernel_rfl) (by kernel_rfl) ?_
        refine ls_nil ?_
        refine then_normal ?_
        exact ⟨(fun i => ([undef, undef, undef, undef, undef, undef]).getD i undef), (.bool true), by kernel_rfl, HA, H⟩
      · rintro _ w_6 ⟨D_2, x43, rfl, HA_6, H⟩
        refine ls_nil ?_
        refine then_normal ?_
        refine fr_eq (b := ⟨([x0, x1, x2, x3, undef, undef, undef, undef, (.bool false), x19, undef, x0, x12, x1, x14, x2, x16, x3, x18, x19, x19, x21, x2, x23, undef, undef, undef, undef, undef, undef, undef, undef, undef, undef, x1, x35, x35, (D_2 0), (D_2 1), (D_2 2), (D_2 3), (D_2 4), (D_2 5), x43, undef, undef, undef, undef, undef, undef] ++ [undef, undef, undef, undef, undef, undef, undef, undef, undef, undef, undef, undef, undef, undef, undef, undef, undef, undef]).toArray, []⟩) (by kernel_rfl) ?_
        refine wp_if rfl H (fun H => ?_) (fun H => ?_)
        · refine wp_seq ?_
          refine lwp_list ?_
          refine ls_d (d := some 44) (by kernel_rfl) (by kernel_rfl) HA_6 (d_call (by kernel_rfl) (by kernel_rfl) H) (fun x44 h_6 w_7 H HA_7 => ?_)
          refine ls_assign (x := x44) (by kernel_rfl) (by kernel_rfl) ?_
          refine ls_nil ?_
          refine then_normal ?_
          refine fr_eq (b := ⟨([x0, x1, x2, x3, undef, undef, undef, undef, x44, x19, undef, x0, x12, x1, x14, x2, x16, x3, x18, x19, x19, x21, x2, x23, undef, undef, undef, undef, undef, undef, undef, undef, undef, undef, x1, x35, x35, (D_2 0), (D_2 1), (D_2 2), (D_2 3), (D_2 4), (D_2 5), x43, x44, undef, undef, undef, undef, undef] ++ [undef, undef, undef, undef, undef, undef, undef, undef, undef, undef, undef, undef, undef, undef, undef, undef, undef, undef]).toArray, []⟩) (by kernel_rfl) ?_
          refine wp_ret ?_
          refine then_ret ?_
          exact end1 (Try.results4) (by kernel_rfl) (by kernel_rfl) HA_7 H _ (.inr rfl)
        · refine wp_skip ?_
          refine then_normal ?_
          refine fr_eq (b := ⟨([x0, x1, x2, x3, undef, undef, undef, undef, (.bool false), x19, undef, x0, x12, x1, x14, x2, x16, x3, x18, x19, x19, x21, x2, x23, undef, undef, undef, undef, undef, undef, undef, undef, undef, undef, x1, x35, x35, (D_2 0), (D_2 1), (D_2 2), (D_2 3), (D_2 4), (D_2 5), x43, undef, undef, undef, undef, undef, undef] ++ [undef, undef, undef, undef, undef, undef, undef, undef, undef, undef, undef, undef, undef, undef, undef, undef, undef, undef]).toArray, []⟩) (by kernel_rfl) ?_
          refine wp_seq ?_
          refine wp_seq ?_
          refine lwp_list ?_
          refine ls_assign (x := (.int .i64 0)) (by kernel_rfl) (by kernel_rfl) ?_
          refine ls_nil ?_
          refine then_normal ?_
          refine fr_eq (b := ⟨([x0, x1, x2, x3, undef, undef, undef, undef, (.bool false), x19, (.int .i64 0), x0, x12, x1, x14, x2, x16, x3, x18, x19, x19, x21, x2, x23, undef, undef, undef, undef, undef, undef, undef, undef, undef, undef, x1, x35, x35, (D_2 0), (D_2 1), (D_2 2), (D_2 3), (D_2 4), (D_2 5), x43, undef, undef, undef, undef, undef, undef] ++ [undef, undef, undef, undef, undef, undef, undef, undef, undef, undef, undef, undef, undef, undef, undef, undef, undef, undef]).toArray, []⟩) (by kernel_rfl) ?_
          refine wp_block ?_
          obtain ⟨I, m, H0, HB⟩ := H
          refine wp_loop (fun a w => ∃ (D_3 : Nat → Value) (x10 : Value) (h_7 : Heap), a = ⟨([x0, x1, x2, x3, undef, undef, undef, undef, (.bool false), x19, x10, x0, x12, x1, x14, x2, x16, x3, x18, x19, x19, x21, x2, x23, undef, undef, undef, undef, undef, undef, undef, undef, undef, undef, x1, x35, x35, (D_2 0), (D_2 1), (D_2 2), (D_2 3), (D_2 4), (D_2 5), x43, undef, (D_3 0), (D_3 1), (D_3 2), (D_3 3), (D_3 4)] ++ [(D_3 5), (D_3 6), (D_3 7), undef, undef, undef, undef, undef, undef, undef, undef, undef, undef, undef, undef, undef, undef, undef]).toArray, []⟩ ∧ At w0 w h_7 ∧ I x10 h_7) (fun a w => m (a.tmps.getD 10 undef) w.heap) ?_ ?_
          · exact ⟨(fun i => ([undef, undef, undef, undef, undef, undef, undef, undef]).getD i undef), (.int .i64 0), h, by kernel_rfl, HA_6, H0⟩
          · rintro _ w_8 ⟨D_3, x10, h_7, rfl, HA_8, HI⟩
            have H : betonylaw20_PatienceEnds_l1 R x1 x2 x3 x19 (fun x10' h' => I x10' h' ∧ m x10' h' < m x10 h_7) x10 h_7 := HB x10 h_7 HI
            clear HB H0 HI
            unfold betonylaw20_PatienceEnds_l1 at H
            refine wp_seq ?_
            refine wp_seq ?_
            refine lwp_list ?_
            refine ls_move (x := x10) (by kernel_rfl) (by kernel_rfl) ?_
            refine ls_move (x := x1) (by kernel_rfl) (by kernel_rfl) ?_
            refine ls_p (d := some 47) (by kernel_rfl) (by kernel_rfl) (p_conv Try.underlying5 Try.underlying3 (by kernel_rfl) H) (fun x47 H => ?_)
            refine ls_p (d := some 48) (by kernel_rfl) (by kernel_rfl) (p_sLt (by kernel_rfl) (by kernel_rfl) H) (fun x48 H => ?_)
            refine ls_nil ?_
            refine then_normal ?_
            refine fr_eq (b := ⟨([x0, x1, x2, x3, undef, undef, undef, undef, (.bool false), x19, x10, x0, x12, x1, x14, x2, x16, x3, x18, x19, x19, x21, x2, x23, undef, undef, undef, undef, undef, undef, undef, undef, undef, undef, x1, x35, x35, (D_2 0), (D_2 1), (D_2 2), (D_2 3), (D_2 4), (D_2 5), x43, undef, x10, x1, x47, x48, (D_3 4)] ++ [(D_3 5), (D_3 6), (D_3 7), undef, undef, undef, undef, undef, undef, undef, undef, undef, undef, undef, undef, undef, undef, undef]).toArray, []⟩) (by kernel_rfl) ?_
            refine wp_if rfl H (fun H => ?_) (fun H => ?_)
            · refine wp_skip ?_
              refine then_normal ?_
              refine fr_eq (b := ⟨([x0, x1, x2, x3, undef, undef, undef, undef, (.bool false), x19, x10, x0, x12, x1, x14, x2, x16, x3, x18, x19, x19, x21, x2, x23, undef, undef, undef, undef, undef, undef, undef, undef, undef, undef, x1, x35, x35, (D_2 0), (D_2 1), (D_2 2), (D_2 3), (D_2 4), (D_2 5), x43, undef, x10, x1, x47, x48, (D_3 4)] ++ [(D_3 5), (D_3 6), (D_3 7), undef, undef, undef, undef, undef, undef, undef, undef, undef, undef, undef, undef, undef, undef, undef]).toArray, []⟩) (by kernel_rfl) ?_
              refine wp_seq ?_
              refine wp_block ?_
              refine lwp_list ?_
              refine ls_move (x := x19) (by kernel_rfl) (by kernel_rfl) ?_
              refine ls_d (d := some 52) (by kernel_rfl) (by kernel_rfl) HA_8 (d_call (by kernel_rfl) (by kernel_rfl) H) (fun x52 h_8 w_9 H HA_9 => ?_)
              refine ls_nil ?_
              refine block_normal ?_
              refine then_normal ?_
              refine fr_eq (b := ⟨([x0, x1, x2, x3, undef, undef, undef, undef, (.bool false), x19, x10, x0, x12, x1, x14, x2, x16, x3, x18, x19, x19, x21, x2, x23, undef, undef, undef, undef, undef, undef, undef, undef, undef, undef, x1, x35, x35, (D_2 0), (D_2 1), (D_2 2), (D_2 3), (D_2 4), (D_2 5), x43, undef, x10, x1, x47, x48, (D_3 4)] ++ [(D_3 5), x19, x52, undef, undef, undef, undef, undef, undef, undef, undef, undef, undef, undef, undef, undef, undef, undef]).toArray, []⟩) (by kernel_rfl) ?_
              refine lwp_list ?_
              refine ls_move (x := x10) (by kernel_rfl) (by kernel_rfl) ?_
              refine ls_p (d := some 50) (by kernel_rfl) (by kernel_rfl) (p_add (by kernel_rfl) (by kernel_rfl) H) (fun x50 H => ?_)
              refine ls_assign (x := x50) (by kernel_rfl) (by kernel_rfl) ?_
              refine ls_nil ?_
              exact ⟨⟨(fun i => ([x10, x1, x47, x48, x10, x50, x19, x52]).getD i undef), x50, h_8, by kernel_rfl, HA_9, H.1⟩, loop_lt HA_9.heap HA_8.heap (by kernel_rfl) (by kernel_rfl) H.2⟩
            · refine wp_exit ?_
              refine then_exit ?_
              refine then_exit ?_
              refine block_exit ?_
              refine then_normal ?_
              refine fr_eq (b := ⟨([x0, x1, x2, x3, undef, undef, undef, undef, (.bool false), x19, x10, x0, x12, x1, x14, x2, x16, x3, x18, x19, x19, x21, x2, x23, undef, undef, undef, undef, undef, undef, undef, undef, undef, undef, x1, x35, x35, (D_2 0), (D_2 1), (D_2 2), (D_2 3), (D_2 4), (D_2 5), x43, undef, x10, x1, x47, x48, (D_3 4)] ++ [(D_3 5), (D_3 6), (D_3 7), undef, undef, undef, undef, undef, undef, undef, undef, undef, undef, undef, undef, undef, undef, undef]).toArray, []⟩) (by kernel_rfl) ?_
              refine wp_seq ?_
              refine lwp_list ?_
              refine ls_move (x := x19) (by kernel_rfl) (by kernel_rfl) ?_
              refine ls_d (d := some 54) (by kernel_rfl) (by kernel_rfl) HA_8 (d_call (by kernel_rfl) (by kernel_rfl) H) (fun x54 h_9 w_10 H HA_10 => ?_)
              refine ls_move (x := x54) (by kernel_rfl) (by kernel_rfl) ?_
              refine ls_andh [(), (), (), (), (), (), (), (), ()] (fun K a w => ∃ (D_4 : Nat → Value) (x64 : Value) (h_10 : Heap), a = ⟨([x0, x1, x2, x3, undef, undef, undef, undef, (.bool false), x19, x10, x0, x12, x1, x14, x2, x16, x3, x18, x19, x19, x21, x2, x23, undef, undef, undef, undef, undef, undef, undef, undef, undef, undef, x1, x35, x35, (D_2 0), (D_2 1), (D_2 2), (D_2 3), (D_2 4), (D_2 5), x43, undef, x10, x1, x47, x48, (D_3 4)] ++ [(D_3 5), (D_3 6), (D_3 7), x19, x54, x54, (D_4 0), (D_4 1), (D_4 2), (D_4 3), (D_4 4), (D_4 5), (D_4 6), (D_4 7), x64, undef, undef, undef]).toArray, []⟩ ∧ At w0 w h_10 ∧ K x64 h_10) H (fun hb_3 H => ?_) (fun hb_3 H => ?_) ?_
              · refine ls_move (x := x19) (by rw [hb_3]; kernel_rfl) (by kernel_rfl) ?_
                refine ls_d (d := some 57) (by kernel_rfl) (by rw [hb_3]; kernel_rfl) HA_10 (d_call (by kernel_rfl) (by kernel_rfl) H) (fun x57 h_13 w_14 H HA_14 => ?_)
                refine ls_move (x := x3) (by rw [hb_3]; kernel_rfl) (by kernel_rfl) ?_
                refine ls_fr (b := ⟨([x0, x1, x2, x3, undef, undef, undef, undef, (.bool false), x19, x10, x0, x12, x1, x14, x2, x16, x3, x18, x19, x19, x21, x2, x23, undef, undef, undef, undef, undef, undef, undef, undef, undef, undef, x1, x35, x35, (D_2 0), (D_2 1), (D_2 2), (D_2 3), (D_2 4), (D_2 5), x43, undef, x10, x1, x47, x48, (D_3 4)] ++ [(D_3 5), (D_3 6), (D_3 7), x19, x54, x54, x19, x57, x3, undef, undef, undef, undef, undef, undef, undef, undef, undef]).toArray, []⟩) (by kernel_rfl) ?_
                refine ls_p (d := some 59) (by kernel_rfl) (by rw [hb_3]; kernel_rfl) (p_conv Try.underlying5 Try.underlying3 (by kernel_rfl) H) (fun x59 H => ?_)
                refine ls_move (x := x2) (by rw [hb_3]; kernel_rfl) (by kernel_rfl) ?_
                refine ls_p (d := some 61) (by kernel_rfl) (by rw [hb_3]; kernel_rfl) (p_conv Try.underlying30 Try.underlying3 (by kernel_rfl) H) (fun x61 H => ?_)
                refine ls_p (d := some 62) (by kernel_rfl) (by rw [hb_3]; kernel_rfl) (p_min (by kernel_rfl) (by kernel_rfl) H) (fun x62 H => ?_)
                refine ls_p (d := some 63) (by kernel_rfl) (by rw [hb_3]; kernel_rfl) (p_sEq (by kernel_rfl) (by kernel_rfl) H) (fun x63 H => ?_)
                refine ls_pick_t (x := x63) (by kernel_rfl) (by rw [hb_3]; kernel_rfl) (by kernel_rfl) ?_
                refine ls_nil ?_
                refine then_normal ?_
                exact ⟨(fun i => ([x19, x57, x3, x59, x2, x61, x62, x63]).getD i undef), x63, h_13, by kernel_rfl, HA_14, H⟩
              · refine ls_skip (d := some 56) (by kernel_rfl) (by rw [hb_3]; kernel_rfl) ?_
                refine ls_skip (d := some 57) (by kernel_rfl) (by rw [hb_3]; kernel_rfl) ?_
                refine ls_skip (d := some 58) (by kernel_rfl) (by rw [hb_3]; kernel_rfl) ?_
                refine ls_fr (b := ⟨([x0, x1, x2, x3, undef, undef, undef, undef, (.bool false), x19, x10, x0, x12, x1, x14, x2, x16, x3, x18, x19, x19, x21, x2, x23, undef, undef, undef, undef, undef, undef, undef, undef, undef, undef, x1, x35, x35, (D_2 0), (D_2 1), (D_2 2), (D_2 3), (D_2 4), (D_2 5), x43, undef, x10, x1, x47, x48, (D_3 4)] ++ [(D_3 5), (D_3 6), (D_3 7), x19, x54, x54, undef, undef, undef, undef, undef, undef, undef, undef, undef, undef, undef, undef]).toArray, []⟩) (by kernel_rfl) ?_
                refine ls_skip (d := some 59) (by kernel_rfl) (by rw [hb_3]; kernel_rfl) ?_
                refine ls_skip (d := some 60) (by kernel_rfl) (by rw [hb_3]; kernel_rfl) ?_
                refine ls_skip (d := some 61) (by kernel_rfl) (by rw [hb_3]; kernel_rfl) ?_
                refine ls_skip (d := some 62) (by kernel_rfl) (by rw [hb_3]; kernel_rfl) ?_
                refine ls_skip (d := some 63) (by kernel_rfl) (by rw [hb_3]; kernel_rfl) ?_
                refine ls_pick_f (y := (.bool false)) (by kernel_rfl) (by rw [hb_3]; kernel_rfl) (by kernel_rfl) ?_
                refine ls_nil ?_
                refine then_normal ?_
                exact ⟨(fun i => ([undef, undef, undef, undef, undef, undef, undef, undef]).getD i undef), (.bool false), h_9, by kernel_rfl, HA_10, H⟩
              · rintro _ w_11 ⟨D_4, x64, h_10, rfl, HA_11, H⟩
                refine ls_move (x := x64) (by kernel_rfl) (by kernel_rfl) ?_
                refine ls_andh [(), ()] (fun K a w => ∃ (D_5 : Nat → Value) (x67 : Value) (h_11 : Heap), a = ⟨([x0, x1, x2, x3, undef, undef, undef, undef, (.bool false), x19, x10, x0, x12, x1, x14, x2, x16, x3, x18, x19, x19, x21, x2, x23, undef, undef, undef, undef, undef, undef, undef, undef, undef, undef, x1, x35, x35, (D_2 0), (D_2 1), (D_2 2), (D_2 3), (D_2 4), (D_2 5), x43, undef, x10, x1, x47, x48, (D_3 4)] ++ [(D_3 5), (D_3 6), (D_3 7), x19, x54, x54, (D_4 0), (D_4 1), (D_4 2), (D_4 3), (D_4 4), (D_4 5), (D_4 6), (D_4 7), x64, x64, (D_5 0), x67]).toArray, []⟩ ∧ At w0 w h_11 ∧ K x67 h_11) H (fun hb_2 H => ?_) (fun hb_2 H => ?_) ?_
                · refine ls_d (d := some 66) (by kernel_rfl) (by rw [hb_2]; kernel_rfl) HA_11 (d_call (by kernel_rfl) (by kernel_rfl) H) (fun x66 h_12 w_13 H HA_13 => ?_)
                  refine ls_pick_t (x := x66) (by kernel_rfl) (by rw [hb_2]; kernel_rfl) (by kernel_rfl) ?_
                  refine ls_nil ?_
                  refine then_normal ?_
                  exact ⟨(fun i => ([x66]).getD i undef), x66, h_12, by kernel_rfl, HA_13, H⟩
                · refine ls_skip (d := some 66) (by kernel_rfl) (by rw [hb_2]; kernel_rfl) ?_
                  refine ls_pick_f (y := (.bool false)) (by kernel_rfl) (by rw [hb_2]; kernel_rfl) (by kernel_rfl) ?_
                  refine ls_nil ?_
                  refine then_normal ?_
                  exact ⟨(fun i => ([undef]).getD i undef), (.bool false), h_10, by kernel_rfl, HA_11, H⟩
                · rintro _ w_12 ⟨D_5, x67, h_11, rfl, HA_12, H⟩
                  refine ls_assign (x := x67) (by kernel_rfl) (by kernel_rfl) ?_
                  refine ls_nil ?_
                  refine then_normal ?_
                  refine fr_eq (b := ⟨([x0, x1, x2, x3, undef, undef, undef, undef, x67, x19, x10, x0, x12, x1, x14, x2, x16, x3, x18, x19, x19, x21, x2, x23, undef, undef, undef, undef, undef, undef, undef, undef, undef, undef, x1, x35, x35, (D_2 0), (D_2 1), (D_2 2), (D_2 3), (D_2 4), (D_2 5), x43, undef, x10, x1, x47, x48, (D_3 4)] ++ [(D_3 5), (D_3 6), (D_3 7), x19, x54, x54, (D_4 0), (D_4 1), (D_4 2), (D_4 3), (D_4 4), (D_4 5), (D_4 6), (D_4 7), x64, x64, (D_5 0), x67]).toArray, []⟩) (by kernel_rfl) ?_
                  refine wp_ret ?_
                  exact end1 (Try.results4) (by kernel_rfl) (by kernel_rfl) HA_12 H _ (.inr rfl)

end Go.Proofs.Ytecoejjpdogklaa
