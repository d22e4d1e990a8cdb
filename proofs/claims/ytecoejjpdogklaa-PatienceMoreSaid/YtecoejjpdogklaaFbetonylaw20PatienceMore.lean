/- The shallow reading of one function, and that the function does it. Written by a program. -/
import Derived.Test.YtecoejjpdogklaaFnC
set_option linter.unusedVariables false
namespace Go.Proofs.Ytecoejjpdogklaa
open Go Go.HW

def betonylaw20_PatienceMore_S (x0 x1 x2 x3 x4 : Value) (h : Heap) (R : Value → Heap → Prop) : Prop :=
  sLen x3 fun x14 =>
  sGt x14 (.int .i64 40) fun x15 =>
  sOr x15 (fun k_3 =>
  sLen x4 fun x18 =>
  sGt x18 (.int .i64 40) fun x19 =>
  k_3 x19) fun x20 =>
  sIf x20 (betonylaw20_awake_c  h fun x21 h => 
  R x21 h) (sConv .i64 x0 fun x23 =>
  sConv .i64 x1 fun x25 =>
  sConv .i64 x2 fun x27 =>
  patience_New_c x23 x25 x27 (.int .i64 0) h fun x28 h_1 => 
  sEqlNil x28 fun x30 =>
  sIf x30 (R (.bool false) h_1) (betonylaw20_step_c x28 x3 h_1 fun x33 h_2 => 
  patience_Wait_Done_c x28 h_2 fun x35 h_3 => 
  sNot x35 fun x36 =>
  sIf x36 (patience_Wait_Count_c x28 h_3 fun x38 h_4 => 
  sConv .i64 x2 fun x40 =>
  sMax (.int .i64 1) x40 fun x41 =>
  sLt x38 x41 fun x42 =>
  sAndH x42 h_4 (fun k =>
  betonylaw20_awake_c  h_4 fun x44 h_6 => 
  k x44 h_6) fun x45 h_5 =>
  R x45 h_5) (patience_Wait_Count_c x28 h_3 fun x47 h_7 => 
  betonylaw20_step_c x28 x4 h_7 fun x50 h_8 => 
  patience_Wait_Done_c x28 h_8 fun x52 h_9 => 
  sAndH x52 h_9 (fun k_2 =>
  patience_Wait_Count_c x28 h_9 fun x55 h_13 => 
  sEq x55 x47 fun x57 =>
  k_2 x57 h_13) fun x58 h_10 =>
  sAndH x58 h_10 (fun k_1 =>
  betonylaw20_awake_c  h_10 fun x60 h_12 => 
  k_1 x60 h_12) fun x61 h_11 =>
  R x61 h_11)))
set_option maxRecDepth 100000 in
theorem betonylaw20_PatienceMore_runs {x0 x1 x2 x3 x4 : Value} {h : Heap} {R : Value → Heap → Prop} (H : betonylaw20_PatienceMore_S x0 x1 x2 x3 x4 h R) : betonylaw20_PatienceMore_c x0 x1 x2 x3 x4 h R := by
  unfold betonylaw20_PatienceMore_S at H
  refine runs_of (b := ⟨([x0, x1, x2, x3, x4, undef, undef, undef, undef, undef, undef, undef, undef, undef, undef, undef, undef, undef, undef, undef, undef, undef, undef, undef, undef, undef, undef, undef, undef, undef, undef, undef, undef, undef, undef, undef, undef, undef, undef, undef, undef, undef, undef, undef, undef, undef, undef, undef, undef, undef] ++ [undef, undef, undef, undef, undef, undef, undef, undef, undef, undef, undef, undef]).toArray, []⟩) Try.call5 Try.func5 rfl (by kernel_rfl) (fun w0 HA => ?_)
  refine wp_seq ?_
  refine lwp_list ?_
  refine ls_assign (x := (.bool false)) (by kernel_rfl) (by kernel_rfl) ?_
  refine ls_nil ?_
  refine then_normal ?_
  refine fr_eq (b := ⟨([x0, x1, x2, x3, x4, undef, undef, undef, undef, undef, (.bool false), undef, undef, undef, undef, undef, undef, undef, undef, undef, undef, undef, undef, undef, undef, undef, undef, undef, undef, undef, undef, undef, undef, undef, undef, undef, undef, undef, undef, undef, undef, undef, undef, undef, undef, undef, undef, undef, undef, undef] ++ [undef, undef, undef, undef, undef, undef, undef, undef, undef, undef, undef, undef]).toArray, []⟩) (by kernel_rfl) ?_
  refine wp_seq ?_
  refine wp_seq ?_
  refine lwp_list ?_
  refine ls_move (x := x3) (by kernel_rfl) (by kernel_rfl) ?_
  refine ls_p (d := some 14) (by kernel_rfl) (by kernel_rfl) (p_len Try.underlying22 (by kernel_rfl) H) (fun x14 H => ?_)
  refine ls_p (d := some 15) (by kernel_rfl) (by kernel_rfl) (p_sGt (by kernel_rfl) (by kernel_rfl) H) (fun x15 H => ?_)
  refine ls_move (x := x15) (by kernel_rfl) (by kernel_rfl) ?_
  refine ls_or [(), (), (), ()] (fun K a w => ∃ (D : Nat → Value) (x20 : Value), a = ⟨([x0, x1, x2, x3, x4, undef, undef, undef, undef, undef, (.bool false), undef, undef, x3, x14, x15, x15, (D 0), (D 1), (D 2), x20, undef, undef, undef, undef, undef, undef, undef, undef, undef, undef, undef, undef, undef, undef, undef, undef, undef, undef, undef, undef, undef, undef, undef, undef, undef, undef, undef, undef, undef] ++ [undef, undef, undef, undef, undef, undef, undef, undef, undef, undef, undef, undef]).toArray, []⟩ ∧ At w0 w h ∧ K x20) H (fun hb_3 H => ?_) (fun hb_3 H => ?_) ?_
  · refine ls_move (x := x4) (by rw [hb_3]; kernel_rfl) (by kernel_rfl) ?_
    refine ls_p (d := some 18) (by kernel_rfl) (by rw [hb_3]; kernel_rfl) (p_len Try.underlying22 (by kernel_rfl) H) (fun x18 H => ?_)
    refine ls_fr (b := ⟨([x0, x1, x2, x3, x4, undef, undef, undef, undef, undef, (.bool false), undef, undef, x3, x14, x15, x15, x4, x18, undef, undef, undef, undef, undef, undef, undef, undef, undef, undef, undef, undef, undef, undef, undef, undef, undef, undef, undef, undef, undef, undef, undef, undef, undef, undef, undef, undef, undef, undef, undef] ++ [undef, undef, undef, undef, undef, undef, undef, undef, undef, undef, undef, undef]).toArray, []⟩) (by kernel_rfl) ?_
    refine ls_p (d := some 19) (by kernel_rfl) (by rw [hb_3]; kernel_rfl) (p_sGt (by kernel_rfl) (by kernel_rfl) H) (fun x19 H => ?_)
    refine ls_pick_f (y := x19) (by kernel_rfl) (by rw [hb_3]; kernel_rfl) (by kernel_rfl) ?_
    refine ls_nil ?_
    refine then_normal ?_
    exact ⟨(fun i => ([x4, x18, x19]).getD i undef), x19, by kernel_rfl, HA, H⟩
  · refine ls_skip (d := some 17) (by kernel_rfl) (by rw [hb_3]; kernel_rfl) ?_
    refine ls_skip (d := some 18) (by kernel_rfl) (by rw [hb_3]; kernel_rfl) ?_
    refine ls_fr (b := ⟨([x0, x1, x2, x3, x4, undef, undef, undef, undef, undef, (.bool false), undef, undef, x3, x14, x15, x15, undef, undef, undef, undef, undef, undef, undef, undef, undef, undef, undef, undef, undef, undef, undef, undef, undef, undef, undef, undef, undef, undef, undef, undef, undef, undef, undef, undef, undef, undef, undef, undef, undef] ++ [undef, undef, undef, undef, undef, undef, undef, undef, undef, undef, undef, undef]).toArray, []⟩) (by kernel_rfl) ?_
    refine ls_skip (d := some 19) (by kernel_rfl) (by rw [hb_3]; kernel_rfl) ?_
    refine ls_pick_t (x := (.bool true)) (by kernel_rfl) (by rw [hb_3]; kernel_rfl) (by kernel_rfl) ?_
    refine ls_nil ?_
    refine then_normal ?_
    exact ⟨(fun i => ([undef, undef, undef]).getD i undef), (.bool true), by kernel_rfl, HA, H⟩
  · rintro _ w ⟨D, x20, rfl, HA, H⟩
    refine ls_nil ?_
    refine then_normal ?_
    refine fr_eq (b := ⟨([x0, x1, x2, x3, x4, undef, undef, undef, undef, undef, (.bool false), undef, undef, x3, x14, x15, x15, (D 0), (D 1), (D 2), x20, undef, undef, undef, undef, undef, undef, undef, undef, undef, undef, undef, undef, undef, undef, undef, undef, undef, undef, undef, undef, undef, undef, undef, undef, undef, undef, undef, undef, undef] ++ [undef, undef, undef, undef, undef, undef, undef, undef, undef, undef, undef, undef]).toArray, []⟩) (by kernel_rfl) ?_
    refine wp_if rfl H (fun H => ?_) (fun H => ?_)
    · refine wp_seq ?_
      refine lwp_list ?_
      refine ls_d (d := some 21) (by kernel_rfl) (by kernel_rfl) HA (d_call (by kernel_rfl) (by kernel_rfl) H) (fun x21 h w_1 H HA_1 => ?_)
      refine ls_assign (x := x21) (by kernel_rfl) (by kernel_rfl) ?_
      refine ls_nil ?_
      refine then_normal ?_
      refine fr_eq (b := ⟨([x0, x1, x2, x3, x4, undef, undef, undef, undef, undef, x21, undef, undef, x3, x14, x15, x15, (D 0), (D 1), (D 2), x20, x21, undef, undef, undef, undef, undef, undef, undef, undef, undef, undef, undef, undef, undef, undef, undef, undef, undef, undef, undef, undef, undef, undef, undef, undef, undef, undef, undef, undef] ++ [undef, undef, undef, undef, undef, undef, undef, undef, undef, undef, undef, undef]).toArray, []⟩) (by kernel_rfl) ?_
      refine wp_ret ?_
      refine then_ret ?_
      exact end1 (Try.results5) (by kernel_rfl) (by kernel_rfl) HA_1 H _ (.inr rfl)
    · refine wp_skip ?_
      refine then_normal ?_
      refine fr_eq (b := ⟨([x0, x1, x2, x3, x4, undef, undef, undef, undef, undef, (.bool false), undef, undef, x3, x14, x15, x15, (D 0), (D 1), (D 2), x20, undef, undef, undef, undef, undef, undef, undef, undef, undef, undef, undef, undef, undef, undef, undef, undef, undef, undef, undef, undef, undef, undef, undef, undef, undef, undef, undef, undef, undef] ++ [undef, undef, undef, undef, undef, undef, undef, undef, undef, undef, undef, undef]).toArray, []⟩) (by kernel_rfl) ?_
      refine wp_seq ?_
      refine lwp_list ?_
      refine ls_move (x := x0) (by kernel_rfl) (by kernel_rfl) ?_
      refine ls_p (d := some 23) (by kernel_rfl) (by kernel_rfl) (p_conv Try.underlying5 Try.underlying3 (by kernel_rfl) H) (fun x23 H => ?_)
      refine ls_move (x := x1) (by kernel_rfl) (by kernel_rfl) ?_
      refine ls_p (d := some 25) (by kernel_rfl) (by kernel_rfl) (p_conv Try.underlying5 Try.underlying3 (by kernel_rfl) H) (fun x25 H => ?_)
      refine ls_move (x := x2) (by kernel_rfl) (by kernel_rfl) ?_
      refine ls_p (d := some 27) (by kernel_rfl) (by kernel_rfl) (p_conv Try.underlying30 Try.underlying3 (by kernel_rfl) H) (fun x27 H => ?_)
      refine ls_fr (b := ⟨([x0, x1, x2, x3, x4, undef, undef, undef, undef, undef, (.bool false), undef, undef, x3, x14, x15, x15, (D 0), (D 1), (D 2), x20, undef, x0, x23, x1, x25, x2, x27, undef, undef, undef, undef, undef, undef, undef, undef, undef, undef, undef, undef, undef, undef, undef, undef, undef, undef, undef, undef, undef, undef] ++ [undef, undef, undef, undef, undef, undef, undef, undef, undef, undef, undef, undef]).toArray, []⟩) (by kernel_rfl) ?_
      refine ls_d (d := some 28) (by kernel_rfl) (by kernel_rfl) HA (d_call (by kernel_rfl) (by kernel_rfl) H) (fun x28 h_1 w_2 H HA_2 => ?_)
      refine ls_assign (x := x28) (by kernel_rfl) (by kernel_rfl) ?_
      refine ls_nil ?_
      refine then_normal ?_
      refine fr_eq (b := ⟨([x0, x1, x2, x3, x4, undef, undef, undef, undef, undef, (.bool false), x28, undef, x3, x14, x15, x15, (D 0), (D 1), (D 2), x20, undef, x0, x23, x1, x25, x2, x27, x28, undef, undef, undef, undef, undef, undef, undef, undef, undef, undef, undef, undef, undef, undef, undef, undef, undef, undef, undef, undef, undef] ++ [undef, undef, undef, undef, undef, undef, undef, undef, undef, undef, undef, undef]).toArray, []⟩) (by kernel_rfl) ?_
      refine wp_seq ?_
      refine wp_seq ?_
      refine lwp_list ?_
      refine ls_move (x := x28) (by kernel_rfl) (by kernel_rfl) ?_
      refine ls_p (d := some 30) (by kernel_rfl) (by kernel_rfl) (p_eqlNil Try.underlying24 (by kernel_rfl) (by kernel_rfl) H) (fun x30 H => ?_)
      refine ls_nil ?_
      refine then_normal ?_
      refine fr_eq (b := ⟨([x0, x1, x2, x3, x4, undef, undef, undef, undef, undef, (.bool false), x28, undef, x3, x14, x15, x15, (D 0), (D 1), (D 2), x20, undef, x0, x23, x1, x25, x2, x27, x28, x28, x30, undef, undef, undef, undef, undef, undef, undef, undef, undef, undef, undef, undef, undef, undef, undef, undef, undef, undef, undef] ++ [undef, undef, undef, undef, undef, undef, undef, undef, undef, undef, undef, undef]).toArray, []⟩) (by kernel_rfl) ?_
      refine wp_if rfl H (fun H => ?_) (fun H => ?_)
      · refine wp_seq ?_
        refine lwp_list ?_
        refine ls_assign (x := (.bool false)) (by kernel_rfl) (by kernel_rfl) ?_
        refine ls_nil ?_
        refine then_normal ?_
        refine fr_eq (b := ⟨([x0, x1, x2, x3, x4, undef, undef, undef, undef, undef, (.bool false), x28, undef, x3, x14, x15, x15, (D 0), (D 1), (D 2), x20, undef, x0, x23, x1, x25, x2, x27, x28, x28, x30, undef, undef, undef, undef, undef, undef, undef, undef, undef, undef, undef, undef, undef, undef, undef, undef, undef, undef, undef] ++ [undef, undef, undef, undef, undef, undef, undef, undef, undef, undef, undef, undef]).toArray, []⟩) (by kernel_rfl) ?_
        refine wp_ret ?_
        refine then_ret ?_
        exact end1 (Try.results5) (by kernel_rfl) (by kernel_rfl) HA_2 H _ (.inr rfl)
      · refine wp_skip ?_
        refine then_normal ?_
        refine fr_eq (b := ⟨([x0, x1, x2, x3, x4, undef, undef, undef, undef, undef, (.bool false), x28, undef, x3, x14, x15, x15, (D 0), (D 1), (D 2), x20, undef, x0, x23, x1, x25, x2, x27, x28, x28, x30, undef, undef, undef, undef, undef, undef, undef, undef, undef, undef, undef, undef, undef, undef, undef, undef, undef, undef, undef] ++ [undef, undef, undef, undef, undef, undef, undef, undef, undef, undef, undef, undef]).toArray, []⟩) (by kernel_rfl) ?_
        refine wp_seq ?_
        refine lwp_list ?_
        refine ls_move (x := x28) (by kernel_rfl) (by kernel_rfl) ?_
        refine ls_move (x := x3) (by kernel_rfl) (by kernel_rfl) ?_
        refine ls_d (d := some 33) (by kernel_rfl) (by kernel_rfl) HA_2 (d_call (by kernel_rfl) (by kernel_rfl) H) (fun x33 h_2 w_3 H HA_3 => ?_)
        refine ls_nil ?_
        refine then_normal ?_
        refine fr_eq (b := ⟨([x0, x1, x2, x3, x4, undef, undef, undef, undef, undef, (.bool false), x28, undef, x3, x14, x15, x15, (D 0), (D 1), (D 2), x20, undef, x0, x23, x1, x25, x2, x27, x28, x28, x30, x28, x3, x33, undef, undef, undef, undef, undef, undef, undef, undef, undef, undef, undef, undef, undef, undef, undef, undef] ++ [undef, undef, undef, undef, undef, undef, undef, undef, undef, undef, undef, undef]).toArray, []⟩) (by kernel_rfl) ?_
        refine wp_seq ?_
        refine wp_seq ?_
        refine lwp_list ?_
        refine ls_move (x := x28) (by kernel_rfl) (by kernel_rfl) ?_
        refine ls_d (d := some 35) (by kernel_rfl) (by kernel_rfl) HA_3 (d_call (by kernel_rfl) (by kernel_rfl) H) (fun x35 h_3 w_4 H HA_4 => ?_)
        refine ls_p (d := some 36) (by kernel_rfl) (by kernel_rfl) (p_not (by kernel_rfl) H) (fun x36 H => ?_)
        refine ls_nil ?_
        refine then_normal ?_
        refine fr_eq (b := ⟨([x0, x1, x2, x3, x4, undef, undef, undef, undef, undef, (.bool false), x28, undef, x3, x14, x15, x15, (D 0), (D 1), (D 2), x20, undef, x0, x23, x1, x25, x2, x27, x28, x28, x30, x28, x3, x33, x28, x35, x36, undef, undef, undef, undef, undef, undef, undef, undef, undef, undef, undef, undef, undef] ++ [undef, undef, undef, undef, undef, undef, undef, undef, undef, undef, undef, undef]).toArray, []⟩) (by kernel_rfl) ?_
        refine wp_if rfl H (fun H => ?_) (fun H => ?_)
        · refine wp_seq ?_
          refine lwp_list ?_
          refine ls_move (x := x28) (by kernel_rfl) (by kernel_rfl) ?_
          refine ls_d (d := some 38) (by kernel_rfl) (by kernel_rfl) HA_4 (d_call (by kernel_rfl) (by kernel_rfl) H) (fun x38 h_4 w_5 H HA_5 => ?_)
          refine ls_move (x := x2) (by kernel_rfl) (by kernel_rfl) ?_
          refine ls_p (d := some 40) (by kernel_rfl) (by kernel_rfl) (p_conv Try.underlying30 Try.underlying3 (by kernel_rfl) H) (fun x40 H => ?_)
          refine ls_p (d := some 41) (by kernel_rfl) (by kernel_rfl) (p_max (by kernel_rfl) (by kernel_rfl) H) (fun x41 H => ?_)
          refine ls_p (d := some 42) (by kernel_rfl) (by kernel_rfl) (p_sLt (by kernel_rfl) (by kernel_rfl) H) (fun x42 H => ?_)
          refine ls_fr (b := ⟨([x0, x1, x2, x3, x4, undef, undef, undef, undef, undef, (.bool false), x28, undef, x3, x14, x15, x15, (D 0), (D 1), (D 2), x20, undef, x0, x23, x1, x25, x2, x27, x28, x28, x30, x28, x3, x33, x28, x35, x36, x28, x38, x2, x40, x41, x42, undef, undef, undef, undef, undef, undef, undef] ++ [undef, undef, undef, undef, undef, undef, undef, undef, undef, undef, undef, undef]).toArray, []⟩) (by kernel_rfl) ?_
          refine ls_move (x := x42) (by kernel_rfl) (by kernel_rfl) ?_
          refine ls_andh [(), ()] (fun K a w => ∃ (D_1 : Nat → Value) (x45 : Value) (h_5 : Heap), a = ⟨([x0, x1, x2, x3, x4, undef, undef, undef, undef, undef, (.bool false), x28, undef, x3, x14, x15, x15, (D 0), (D 1), (D 2), x20, undef, x0, x23, x1, x25, x2, x27, x28, x28, x30, x28, x3, x33, x28, x35, x36, x28, x38, x2, x40, x41, x42, x42, (D_1 0), x45, undef, undef, undef, undef] ++ [undef, undef, undef, undef, undef, undef, undef, undef, undef, undef, undef, undef]).toArray, []⟩ ∧ At w0 w h_5 ∧ K x45 h_5) H (fun hb H => ?_) (fun hb H => ?_) ?_
          · refine ls_d (d := some 44) (by kernel_rfl) (by rw [hb]; kernel_rfl) HA_5 (d_call (by kernel_rfl) (by kernel_rfl) H) (fun x44 h_6 w_7 H HA_7 => ?_)
            refine ls_pick_t (x := x44) (by kernel_rfl) (by rw [hb]; kernel_rfl) (by kernel_rfl) ?_
            refine ls_nil ?_
            refine then_normal ?_
            exact ⟨(fun i => ([x44]).getD i undef), x44, h_6, by kernel_rfl, HA_7, H⟩
          · refine ls_skip (d := some 44) (by kernel_rfl) (by rw [hb]; kernel_rfl) ?_
            refine ls_pick_f (y := (.bool false)) (by kernel_rfl) (by rw [hb]; kernel_rfl) (by kernel_rfl) ?_
            refine ls_nil ?_
            refine then_normal ?_
            exact ⟨(fun i => ([undef]).getD i undef), (.bool false), h_4, by kernel_rfl, HA_5, H⟩
          · rintro _ w_6 ⟨D_1, x45, h_5, rfl, HA_6, H⟩
            refine ls_assign (x := x45) (by kernel_rfl) (by kernel_rfl) ?_
            refine ls_nil ?_
            refine then_normal ?_
            refine fr_eq (b := ⟨([x0, x1, x2, x3, x4, undef, undef, undef, undef, undef, x45, x28, undef, x3, x14, x15, x15, (D 0), (D 1), (D 2), x20, undef, x0, x23, x1, x25, x2, x27, x28, x28, x30, x28, x3, x33, x28, x35, x36, x28, x38, x2, x40, x41, x42, x42, (D_1 0), x45, undef, undef, undef, undef] ++ [undef, undef, undef, undef, undef, undef, undef, undef, undef, undef, undef, undef]).toArray, []⟩) (by kernel_rfl) ?_
            refine wp_ret ?_
            refine then_ret ?_
            exact end1 (Try.results5) (by kernel_rfl) (by kernel_rfl) HA_6 H _ (.inr rfl)
        · refine wp_skip ?_
          refine then_normal ?_
          refine fr_eq (b := ⟨([x0, x1, x2, x3, x4, undef, undef, undef, undef, undef, (.bool false), x28, undef, x3, x14, x15, x15, (D 0), (D 1), (D 2), x20, undef, x0, x23, x1, x25, x2, x27, x28, x28, x30, x28, x3, x33, x28, x35, x36, undef, undef, undef, undef, undef, undef, undef, undef, undef, undef, undef, undef, undef] ++ [undef, undef, undef, undef, undef, undef, undef, undef, undef, undef, undef, undef]).toArray, []⟩) (by kernel_rfl) ?_
          refine wp_seq ?_
          refine lwp_list ?_
          refine ls_move (x := x28) (by kernel_rfl) (by kernel_rfl) ?_
          refine ls_d (d := some 47) (by kernel_rfl) (by kernel_rfl) HA_4 (d_call (by kernel_rfl) (by kernel_rfl) H) (fun x47 h_7 w_8 H HA_8 => ?_)
          refine ls_assign (x := x47) (by kernel_rfl) (by kernel_rfl) ?_
          refine ls_nil ?_
          refine then_normal ?_
          refine fr_eq (b := ⟨([x0, x1, x2, x3, x4, undef, undef, undef, undef, undef, (.bool false), x28, x47, x3, x14, x15, x15, (D 0), (D 1), (D 2), x20, undef, x0, x23, x1, x25, x2, x27, x28, x28, x30, x28, x3, x33, x28, x35, x36, undef, undef, undef, undef, undef, undef, undef, undef, undef, x28, x47, undef, undef] ++ [undef, undef, undef, undef, undef, undef, undef, undef, undef, undef, undef, undef]).toArray, []⟩) (by kernel_rfl) ?_
          refine wp_seq ?_
          refine lwp_list ?_
          refine ls_move (x := x28) (by kernel_rfl) (by kernel_rfl) ?_
          refine ls_move (x := x4) (by kernel_rfl) (by kernel_rfl) ?_
          refine ls_d (d := some 50) (by kernel_rfl) (by kernel_rfl) HA_8 (d_call (by kernel_rfl) (by kernel_rfl) H) (fun x50 h_8 w_9 H HA_9 => ?_)
          refine ls_nil ?_
          refine then_normal ?_
          refine fr_eq (b := ⟨([x0, x1, x2, x3, x4, undef, undef, undef, undef, undef, (.bool false), x28, x47, x3, x14, x15, x15, (D 0), (D 1), (D 2), x20, undef, x0, x23, x1, x25, x2, x27, x28, x28, x30, x28, x3, x33, x28, x35, x36, undef, undef, undef, undef, undef, undef, undef, undef, undef, x28, x47, x28, x4] ++ [x50, undef, undef, undef, undef, undef, undef, undef, undef, undef, undef, undef]).toArray, []⟩) (by kernel_rfl) ?_
          refine wp_seq ?_
          refine lwp_list ?_
          refine ls_move (x := x28) (by kernel_rfl) (by kernel_rfl) ?_
          refine ls_d (d := some 52) (by kernel_rfl) (by kernel_rfl) HA_9 (d_call (by kernel_rfl) (by kernel_rfl) H) (fun x52 h_9 w_10 H HA_10 => ?_)
          refine ls_move (x := x52) (by kernel_rfl) (by kernel_rfl) ?_
          refine ls_andh [(), (), (), (), ()] (fun K a w => ∃ (D_2 : Nat → Value) (x58 : Value) (h_10 : Heap), a = ⟨([x0, x1, x2, x3, x4, undef, undef, undef, undef, undef, (.bool false), x28, x47, x3, x14, x15, x15, (D 0), (D 1), (D 2), x20, undef, x0, x23, x1, x25, x2, x27, x28, x28, x30, x28, x3, x33, x28, x35, x36, undef, undef, undef, undef, undef, undef, undef, undef, undef, x28, x47, x28, x4] ++ [x50, x28, x52, x52, (D_2 0), (D_2 1), (D_2 2), (D_2 3), x58, undef, undef, undef]).toArray, []⟩ ∧ At w0 w h_10 ∧ K x58 h_10) H (fun hb_2 H => ?_) (fun hb_2 H => ?_) ?_
          · refine ls_move (x := x28) (by rw [hb_2]; kernel_rfl) (by kernel_rfl) ?_
            refine ls_d (d := some 55) (by kernel_rfl) (by rw [hb_2]; kernel_rfl) HA_10 (d_call (by kernel_rfl) (by kernel_rfl) H) (fun x55 h_13 w_14 H HA_14 => ?_)
            refine ls_move (x := x47) (by rw [hb_2]; kernel_rfl) (by kernel_rfl) ?_
            refine ls_fr (b := ⟨([x0, x1, x2, x3, x4, undef, undef, undef, undef, undef, (.bool false), x28, x47, x3, x14, x15, x15, (D 0), (D 1), (D 2), x20, undef, x0, x23, x1, x25, x2, x27, x28, x28, x30, x28, x3, x33, x28, x35, x36, undef, undef, undef, undef, undef, undef, undef, undef, undef, x28, x47, x28, x4] ++ [x50, x28, x52, x52, x28, x55, x47, undef, undef, undef, undef, undef]).toArray, []⟩) (by kernel_rfl) ?_
            refine ls_p (d := some 57) (by kernel_rfl) (by rw [hb_2]; kernel_rfl) (p_sEq (by kernel_rfl) (by kernel_rfl) H) (fun x57 H => ?_)
            refine ls_pick_t (x := x57) (by kernel_rfl) (by rw [hb_2]; kernel_rfl) (by kernel_rfl) ?_
            refine ls_nil ?_
            refine then_normal ?_
            exact ⟨(fun i => ([x28, x55, x47, x57]).getD i undef), x57, h_13, by kernel_rfl, HA_14, H⟩
          · refine ls_skip (d := some 54) (by kernel_rfl) (by rw [hb_2]; kernel_rfl) ?_
            refine ls_skip (d := some 55) (by kernel_rfl) (by rw [hb_2]; kernel_rfl) ?_
            refine ls_skip (d := some 56) (by kernel_rfl) (by rw [hb_2]; kernel_rfl) ?_
            refine ls_fr (b := ⟨([x0, x1, x2, x3, x4, undef, undef, undef, undef, undef, (.bool false), x28, x47, x3, x14, x15, x15, (D 0), (D 1), (D 2), x20, undef, x0, x23, x1, x25, x2, x27, x28, x28, x30, x28, x3, x33, x28, x35, x36, undef, undef, undef, undef, undef, undef, undef, undef, undef, x28, x47, x28, x4] ++ [x50, x28, x52, x52, undef, undef, undef, undef, undef, undef, undef, undef]).toArray, []⟩) (by kernel_rfl) ?_
            refine ls_skip (d := some 57) (by kernel_rfl) (by rw [hb_2]; kernel_rfl) ?_
            refine ls_pick_f (y := (.bool false)) (by kernel_rfl) (by rw [hb_2]; kernel_rfl) (by kernel_rfl) ?_
            refine ls_nil ?_
            refine then_normal ?_
            exact ⟨(fun i => ([undef, undef, undef, undef]).getD i undef), (.bool false), h_9, by kernel_rfl, HA_10, H⟩
          · rintro _ w_11 ⟨D_2, x58, h_10, rfl, HA_11, H⟩
            refine ls_move (x := x58) (by kernel_rfl) (by kernel_rfl) ?_
            refine ls_andh [(), ()] (fun K a w => ∃ (D_3 : Nat → Value) (x61 : Value) (h_11 : Heap), a = ⟨([x0, x1, x2, x3, x4, undef, undef, undef, undef, undef, (.bool false), x28, x47, x3, x14, x15, x15, (D 0), (D 1), (D 2), x20, undef, x0, x23, x1, x25, x2, x27, x28, x28, x30, x28, x3, x33, x28, x35, x36, undef, undef, undef, undef, undef, undef, undef, undef, undef, x28, x47, x28, x4] ++ [x50, x28, x52, x52, (D_2 0), (D_2 1), (D_2 2), (D_2 3), x58, x58, (D_3 0), x61]).toArray, []⟩ ∧ At w0 w h_11 ∧ K x61 h_11) H (fun hb_1 H => ?_) (fun hb_1 H => ?_) ?_
            · refine ls_d (d := some 60) (by kernel_rfl) (by rw [hb_1]; kernel_rfl) HA_11 (d_call (by kernel_rfl) (by kernel_rfl) H) (fun x60 h_12 w_13 H HA_13 => ?_)
              refine ls_pick_t (x := x60) (by kernel_rfl) (by rw [hb_1]; kernel_rfl) (by kernel_rfl) ?_
              refine ls_nil ?_
              refine then_normal ?_
              exact ⟨(fun i => ([x60]).getD i undef), x60, h_12, by kernel_rfl, HA_13, H⟩
            · refine ls_skip (d := some 60) (by kernel_rfl) (by rw [hb_1]; kernel_rfl) ?_
              refine ls_pick_f (y := (.bool false)) (by kernel_rfl) (by rw [hb_1]; kernel_rfl) (by kernel_rfl) ?_
              refine ls_nil ?_
              refine then_normal ?_
              exact ⟨(fun i => ([undef]).getD i undef), (.bool false), h_10, by kernel_rfl, HA_11, H⟩
            · rintro _ w_12 ⟨D_3, x61, h_11, rfl, HA_12, H⟩
              refine ls_assign (x := x61) (by kernel_rfl) (by kernel_rfl) ?_
              refine ls_nil ?_
              refine then_normal ?_
              refine fr_eq (b := ⟨([x0, x1, x2, x3, x4, undef, undef, undef, undef, undef, x61, x28, x47, x3, x14, x15, x15, (D 0), (D 1), (D 2), x20, undef, x0, x23, x1, x25, x2, x27, x28, x28, x30, x28, x3, x33, x28, x35, x36, undef, undef, undef, undef, undef, undef, undef, undef, undef, x28, x47, x28, x4] ++ [x50, x28, x52, x52, (D_2 0), (D_2 1), (D_2 2), (D_2 3), x58, x58, (D_3 0), x61]).toArray, []⟩) (by kernel_rfl) ?_
              refine wp_ret ?_
              exact end1 (Try.results5) (by kernel_rfl) (by kernel_rfl) HA_12 H _ (.inr rfl)

end Go.Proofs.Ytecoejjpdogklaa
