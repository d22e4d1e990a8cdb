/- The shallow reading of one function, and that the function does it. Written by a program. -/
import Derived.Test.YtecoejjpdogklaaFnC
set_option linter.unusedVariables false
namespace Go.Proofs.Ytecoejjpdogklaa
open Go Go.HW

def betonyref04_Meets_S (x0 x1 : Value) (h : Heap) (R : Value → Heap → Prop) : Prop :=
  sBox h x0 35 fun x2 h => 
  sBox h x1 35 fun x3 h_1 => 
  sOff x2 2 fun x5 =>
  sLd h_1 x5 fun x6 =>
  sLt x6 (.int .i64 1) fun x7 =>
  sOr x7 (fun k_5 =>
  sOff x2 3 fun x9 =>
  sLd h_1 x9 fun x10 =>
  sLt x10 (.int .i64 1) fun x11 =>
  k_5 x11) fun x12 =>
  sOr x12 (fun k_4 =>
  sOff x3 2 fun x14 =>
  sLd h_1 x14 fun x15 =>
  sLt x15 (.int .i64 1) fun x16 =>
  k_4 x16) fun x17 =>
  sOr x17 (fun k_3 =>
  sOff x3 3 fun x19 =>
  sLd h_1 x19 fun x20 =>
  sLt x20 (.int .i64 1) fun x21 =>
  k_3 x21) fun x22 =>
  sIf x22 (R (.bool false) h_1) (sOff x2 0 fun x23 =>
  sLd h_1 x23 fun x24 =>
  sOff x3 0 fun x25 =>
  sLd h_1 x25 fun x26 =>
  sOff x3 2 fun x27 =>
  sLd h_1 x27 fun x28 =>
  sAdd .i64 x26 x28 fun x29 =>
  sLt x24 x29 fun x30 =>
  sAnd x30 (fun k_2 =>
  sOff x3 0 fun x32 =>
  sLd h_1 x32 fun x33 =>
  sOff x2 0 fun x34 =>
  sLd h_1 x34 fun x35 =>
  sOff x2 2 fun x36 =>
  sLd h_1 x36 fun x37 =>
  sAdd .i64 x35 x37 fun x38 =>
  sLt x33 x38 fun x39 =>
  k_2 x39) fun x40 =>
  sAnd x40 (fun k_1 =>
  sOff x2 1 fun x42 =>
  sLd h_1 x42 fun x43 =>
  sOff x3 1 fun x44 =>
  sLd h_1 x44 fun x45 =>
  sOff x3 3 fun x46 =>
  sLd h_1 x46 fun x47 =>
  sAdd .i64 x45 x47 fun x48 =>
  sLt x43 x48 fun x49 =>
  k_1 x49) fun x50 =>
  sAnd x50 (fun k =>
  sOff x3 1 fun x52 =>
  sLd h_1 x52 fun x53 =>
  sOff x2 1 fun x54 =>
  sLd h_1 x54 fun x55 =>
  sOff x2 3 fun x56 =>
  sLd h_1 x56 fun x57 =>
  sAdd .i64 x55 x57 fun x58 =>
  sLt x53 x58 fun x59 =>
  k x59) fun x60 =>
  R x60 h_1)
set_option maxRecDepth 100000 in
theorem betonyref04_Meets_runs {x0 x1 : Value} {h : Heap} {R : Value → Heap → Prop} (H : betonyref04_Meets_S x0 x1 h R) : betonyref04_Meets_c x0 x1 h R := by
  unfold betonyref04_Meets_S at H
  refine runs_of (b := ⟨([x0, x1, undef, undef, undef, undef, undef, undef, undef, undef, undef, undef, undef, undef, undef, undef, undef, undef, undef, undef, undef, undef, undef, undef, undef, undef, undef, undef, undef, undef, undef, undef, undef, undef, undef, undef, undef, undef, undef, undef, undef, undef, undef, undef, undef, undef, undef, undef, undef, undef] ++ [undef, undef, undef, undef, undef, undef, undef, undef, undef, undef, undef]).toArray, []⟩) Try.call65 Try.func65 rfl (by kernel_rfl) (fun w0 HA => ?_)
  refine wp_seq ?_
  refine lwp_list ?_
  refine ls_d (d := some 2) (by kernel_rfl) (by kernel_rfl) HA (d_box (by kernel_rfl) H) (fun x2 h w H HA => ?_)
  refine ls_d (d := some 3) (by kernel_rfl) (by kernel_rfl) HA (d_box (by kernel_rfl) H) (fun x3 h_1 w_1 H HA_1 => ?_)
  refine ls_assign (x := (.bool false)) (by kernel_rfl) (by kernel_rfl) ?_
  refine ls_nil ?_
  refine then_normal ?_
  refine fr_eq (b := ⟨([x0, x1, x2, x3, (.bool false), undef, undef, undef, undef, undef, undef, undef, undef, undef, undef, undef, undef, undef, undef, undef, undef, undef, undef, undef, undef, undef, undef, undef, undef, undef, undef, undef, undef, undef, undef, undef, undef, undef, undef, undef, undef, undef, undef, undef, undef, undef, undef, undef, undef, undef] ++ [undef, undef, undef, undef, undef, undef, undef, undef, undef, undef, undef]).toArray, []⟩) (by kernel_rfl) ?_
  refine wp_seq ?_
  refine wp_seq ?_
  refine lwp_list ?_
  refine ls_p (d := some 5) (by kernel_rfl) (by kernel_rfl) (p_off Try.underlying35 rfl (fun w => ⟨_, Try.sizeOf3 w⟩) rfl (by kernel_rfl) H) (fun x5 H => ?_)
  refine ls_y (d := some 6) (by kernel_rfl) (by kernel_rfl) HA_1 (y_ld Try.isAgg3 (by kernel_rfl) H) (fun x6 H => ?_)
  refine ls_p (d := some 7) (by kernel_rfl) (by kernel_rfl) (p_sLt (by kernel_rfl) (by kernel_rfl) H) (fun x7 H => ?_)
  refine ls_move (x := x7) (by kernel_rfl) (by kernel_rfl) ?_
  refine ls_or [(), (), (), ()] (fun K a w => ∃ (D : Nat → Value) (x12 : Value), a = ⟨([x0, x1, x2, x3, (.bool false), x5, x6, x7, x7, (D 0), (D 1), (D 2), x12, undef, undef, undef, undef, undef, undef, undef, undef, undef, undef, undef, undef, undef, undef, undef, undef, undef, undef, undef, undef, undef, undef, undef, undef, undef, undef, undef, undef, undef, undef, undef, undef, undef, undef, undef, undef, undef] ++ [undef, undef, undef, undef, undef, undef, undef, undef, undef, undef, undef]).toArray, []⟩ ∧ At w0 w h_1 ∧ K x12) H (fun hb_5 H => ?_) (fun hb_5 H => ?_) ?_
  · refine ls_p (d := some 9) (by kernel_rfl) (by rw [hb_5]; kernel_rfl) (p_off Try.underlying35 rfl (fun w => ⟨_, Try.sizeOf3 w⟩) rfl (by kernel_rfl) H) (fun x9 H => ?_)
    refine ls_y (d := some 10) (by kernel_rfl) (by rw [hb_5]; kernel_rfl) HA_1 (y_ld Try.isAgg3 (by kernel_rfl) H) (fun x10 H => ?_)
    refine ls_fr (b := ⟨([x0, x1, x2, x3, (.bool false), x5, x6, x7, x7, x9, x10, undef, undef, undef, undef, undef, undef, undef, undef, undef, undef, undef, undef, undef, undef, undef, undef, undef, undef, undef, undef, undef, undef, undef, undef, undef, undef, undef, undef, undef, undef, undef, undef, undef, undef, undef, undef, undef, undef, undef] ++ [undef, undef, undef, undef, undef, undef, undef, undef, undef, undef, undef]).toArray, []⟩) (by kernel_rfl) ?_
    refine ls_p (d := some 11) (by kernel_rfl) (by rw [hb_5]; kernel_rfl) (p_sLt (by kernel_rfl) (by kernel_rfl) H) (fun x11 H => ?_)
    refine ls_pick_f (y := x11) (by kernel_rfl) (by rw [hb_5]; kernel_rfl) (by kernel_rfl) ?_
    refine ls_nil ?_
    refine then_normal ?_
    exact ⟨(fun i => ([x9, x10, x11]).getD i undef), x11, by kernel_rfl, HA_1, H⟩
  · refine ls_skip (d := some 9) (by kernel_rfl) (by rw [hb_5]; kernel_rfl) ?_
    refine ls_skip (d := some 10) (by kernel_rfl) (by rw [hb_5]; kernel_rfl) ?_
    refine ls_fr (b := ⟨([x0, x1, x2, x3, (.bool false), x5, x6, x7, x7, undef, undef, undef, undef, undef, undef, undef, undef, undef, undef, undef, undef, undef, undef, undef, undef, undef, undef, undef, undef, undef, undef, undef, undef, undef, undef, undef, undef, undef, undef, undef, undef, undef, undef, undef, undef, undef, undef, undef, undef, undef] ++ [undef, undef, undef, undef, undef, undef, undef, undef, undef, undef, undef]).toArray, []⟩) (by kernel_rfl) ?_
    refine ls_skip (d := some 11) (by kernel_rfl) (by rw [hb_5]; kernel_rfl) ?_
    refine ls_pick_t (x := (.bool true)) (by kernel_rfl) (by rw [hb_5]; kernel_rfl) (by kernel_rfl) ?_
    refine ls_nil ?_
    refine then_normal ?_
    exact ⟨(fun i => ([undef, undef, undef]).getD i undef), (.bool true), by kernel_rfl, HA_1, H⟩
  · rintro _ w_2 ⟨D, x12, rfl, HA_2, H⟩
    refine ls_move (x := x12) (by kernel_rfl) (by kernel_rfl) ?_
    refine ls_or [(), (), (), ()] (fun K a w => ∃ (D_1 : Nat → Value) (x17 : Value), a = ⟨([x0, x1, x2, x3, (.bool false), x5, x6, x7, x7, (D 0), (D 1), (D 2), x12, x12, (D_1 0), (D_1 1), (D_1 2), x17, undef, undef, undef, undef, undef, undef, undef, undef, undef, undef, undef, undef, undef, undef, undef, undef, undef, undef, undef, undef, undef, undef, undef, undef, undef, undef, undef, undef, undef, undef, undef, undef] ++ [undef, undef, undef, undef, undef, undef, undef, undef, undef, undef, undef]).toArray, []⟩ ∧ At w0 w h_1 ∧ K x17) H (fun hb_4 H => ?_) (fun hb_4 H => ?_) ?_
    · refine ls_p (d := some 14) (by kernel_rfl) (by rw [hb_4]; kernel_rfl) (p_off Try.underlying35 rfl (fun w => ⟨_, Try.sizeOf3 w⟩) rfl (by kernel_rfl) H) (fun x14 H => ?_)
      refine ls_y (d := some 15) (by kernel_rfl) (by rw [hb_4]; kernel_rfl) HA_2 (y_ld Try.isAgg3 (by kernel_rfl) H) (fun x15 H => ?_)
      refine ls_p (d := some 16) (by kernel_rfl) (by rw [hb_4]; kernel_rfl) (p_sLt (by kernel_rfl) (by kernel_rfl) H) (fun x16 H => ?_)
      refine ls_pick_f (y := x16) (by kernel_rfl) (by rw [hb_4]; kernel_rfl) (by kernel_rfl) ?_
      refine ls_nil ?_
      refine then_normal ?_
      exact ⟨(fun i => ([x14, x15, x16]).getD i undef), x16, by kernel_rfl, HA_2, H⟩
    · refine ls_skip (d := some 14) (by kernel_rfl) (by rw [hb_4]; kernel_rfl) ?_
      refine ls_skip (d := some 15) (by kernel_rfl) (by rw [hb_4]; kernel_rfl) ?_
      refine ls_skip (d := some 16) (by kernel_rfl) (by rw [hb_4]; kernel_rfl) ?_
      refine ls_pick_t (x := (.bool true)) (by kernel_rfl) (by rw [hb_4]; kernel_rfl) (by kernel_rfl) ?_
      refine ls_nil ?_
      refine then_normal ?_
      exact ⟨(fun i => ([undef, undef, undef]).getD i undef), (.bool true), by kernel_rfl, HA_2, H⟩
    · rintro _ w_3 ⟨D_1, x17, rfl, HA_3, H⟩
      refine ls_move (x := x17) (by kernel_rfl) (by kernel_rfl) ?_
      refine ls_or [(), (), (), ()] (fun K a w => ∃ (D_2 : Nat → Value) (x22 : Value), a = ⟨([x0, x1, x2, x3, (.bool false), x5, x6, x7, x7, (D 0), (D 1), (D 2), x12, x12, (D_1 0), (D_1 1), (D_1 2), x17, x17, (D_2 0), (D_2 1), (D_2 2), x22, undef, undef, undef, undef, undef, undef, undef, undef, undef, undef, undef, undef, undef, undef, undef, undef, undef, undef, undef, undef, undef, undef, undef, undef, undef, undef, undef] ++ [undef, undef, undef, undef, undef, undef, undef, undef, undef, undef, undef]).toArray, []⟩ ∧ At w0 w h_1 ∧ K x22) H (fun hb_3 H => ?_) (fun hb_3 H => ?_) ?_
      · refine ls_p (d := some 19) (by kernel_rfl) (by rw [hb_3]; kernel_rfl) (p_off Try.underlying35 rfl (fun w => ⟨_, Try.sizeOf3 w⟩) rfl (by kernel_rfl) H) (fun x19 H => ?_)
        refine ls_y (d := some 20) (by kernel_rfl) (by rw [hb_3]; kernel_rfl) HA_3 (y_ld Try.isAgg3 (by kernel_rfl) H) (fun x20 H => ?_)
        refine ls_p (d := some 21) (by kernel_rfl) (by rw [hb_3]; kernel_rfl) (p_sLt (by kernel_rfl) (by kernel_rfl) H) (fun x21 H => ?_)
        refine ls_pick_f (y := x21) (by kernel_rfl) (by rw [hb_3]; kernel_rfl) (by kernel_rfl) ?_
        refine ls_nil ?_
        refine then_normal ?_
        exact ⟨(fun i => ([x19, x20, x21]).getD i undef), x21, by kernel_rfl, HA_3, H⟩
      · refine ls_skip (d := some 19) (by kernel_rfl) (by rw [hb_3]; kernel_rfl) ?_
        refine ls_skip (d := some 20) (by kernel_rfl) (by rw [hb_3]; kernel_rfl) ?_
        refine ls_skip (d := some 21) (by kernel_rfl) (by rw [hb_3]; kernel_rfl) ?_
        refine ls_pick_t (x := (.bool true)) (by kernel_rfl) (by rw [hb_3]; kernel_rfl) (by kernel_rfl) ?_
        refine ls_nil ?_
        refine then_normal ?_
        exact ⟨(fun i => ([undef, undef, undef]).getD i undef), (.bool true), by kernel_rfl, HA_3, H⟩
      · rintro _ w_4 ⟨D_2, x22, rfl, HA_4, H⟩
        refine ls_nil ?_
        refine then_normal ?_
        refine fr_eq (b := ⟨([x0, x1, x2, x3, (.bool false), x5, x6, x7, x7, (D 0), (D 1), (D 2), x12, x12, (D_1 0), (D_1 1), (D_1 2), x17, x17, (D_2 0), (D_2 1), (D_2 2), x22, undef, undef, undef, undef, undef, undef, undef, undef, undef, undef, undef, undef, undef, undef, undef, undef, undef, undef, undef, undef, undef, undef, undef, undef, undef, undef, undef] ++ [undef, undef, undef, undef, undef, undef, undef, undef, undef, undef, undef]).toArray, []⟩) (by kernel_rfl) ?_
        refine wp_if rfl H (fun H => ?_) (fun H => ?_)
        · refine wp_seq ?_
          refine lwp_list ?_
          refine ls_assign (x := (.bool false)) (by kernel_rfl) (by kernel_rfl) ?_
          refine ls_nil ?_
          refine then_normal ?_
          refine fr_eq (b := ⟨([x0, x1, x2, x3, (.bool false), x5, x6, x7, x7, (D 0), (D 1), (D 2), x12, x12, (D_1 0), (D_1 1), (D_1 2), x17, x17, (D_2 0), (D_2 1), (D_2 2), x22, undef, undef, undef, undef, undef, undef, undef, undef, undef, undef, undef, undef, undef, undef, undef, undef, undef, undef, undef, undef, undef, undef, undef, undef, undef, undef, undef] ++ [undef, undef, undef, undef, undef, undef, undef, undef, undef, undef, undef]).toArray, []⟩) (by kernel_rfl) ?_
          refine wp_ret ?_
          refine then_ret ?_
          exact end1 (Try.results65) (by kernel_rfl) (by kernel_rfl) HA_4 H _ (.inr rfl)
        · refine wp_skip ?_
          refine then_normal ?_
          refine fr_eq (b := ⟨([x0, x1, x2, x3, (.bool false), x5, x6, x7, x7, (D 0), (D 1), (D 2), x12, x12, (D_1 0), (D_1 1), (D_1 2), x17, x17, (D_2 0), (D_2 1), (D_2 2), x22, undef, undef, undef, undef, undef, undef, undef, undef, undef, undef, undef, undef, undef, undef, undef, undef, undef, undef, undef, undef, undef, undef, undef, undef, undef, undef, undef] ++ [undef, undef, undef, undef, undef, undef, undef, undef, undef, undef, undef]).toArray, []⟩) (by kernel_rfl) ?_
          refine wp_seq ?_
          refine lwp_list ?_
          refine ls_p (d := some 23) (by kernel_rfl) (by kernel_rfl) (p_off Try.underlying35 rfl (fun w => ⟨_, Try.sizeOf3 w⟩) rfl (by kernel_rfl) H) (fun x23 H => ?_)
          refine ls_y (d := some 24) (by kernel_rfl) (by kernel_rfl) HA_4 (y_ld Try.isAgg3 (by kernel_rfl) H) (fun x24 H => ?_)
          refine ls_p (d := some 25) (by kernel_rfl) (by kernel_rfl) (p_off Try.underlying35 rfl (fun w => ⟨_, Try.sizeOf3 w⟩) rfl (by kernel_rfl) H) (fun x25 H => ?_)
          refine ls_y (d := some 26) (by kernel_rfl) (by kernel_rfl) HA_4 (y_ld Try.isAgg3 (by kernel_rfl) H) (fun x26 H => ?_)
          refine ls_p (d := some 27) (by kernel_rfl) (by kernel_rfl) (p_off Try.underlying35 rfl (fun w => ⟨_, Try.sizeOf3 w⟩) rfl (by kernel_rfl) H) (fun x27 H => ?_)
          refine ls_y (d := some 28) (by kernel_rfl) (by kernel_rfl) HA_4 (y_ld Try.isAgg3 (by kernel_rfl) H) (fun x28 H => ?_)
          refine ls_fr (b := ⟨([x0, x1, x2, x3, (.bool false), x5, x6, x7, x7, (D 0), (D 1), (D 2), x12, x12, (D_1 0), (D_1 1), (D_1 2), x17, x17, (D_2 0), (D_2 1), (D_2 2), x22, x23, x24, x25, x26, x27, x28, undef, undef, undef, undef, undef, undef, undef, undef, undef, undef, undef, undef, undef, undef, undef, undef, undef, undef, undef, undef, undef] ++ [undef, undef, undef, undef, undef, undef, undef, undef, undef, undef, undef]).toArray, []⟩) (by kernel_rfl) ?_
          refine ls_p (d := some 29) (by kernel_rfl) (by kernel_rfl) (p_add (by kernel_rfl) (by kernel_rfl) H) (fun x29 H => ?_)
          refine ls_p (d := some 30) (by kernel_rfl) (by kernel_rfl) (p_sLt (by kernel_rfl) (by kernel_rfl) H) (fun x30 H => ?_)
          refine ls_move (x := x30) (by kernel_rfl) (by kernel_rfl) ?_
          refine ls_and [(), (), (), (), (), (), (), (), ()] (fun K a w => ∃ (D_3 : Nat → Value) (x40 : Value), a = ⟨([x0, x1, x2, x3, (.bool false), x5, x6, x7, x7, (D 0), (D 1), (D 2), x12, x12, (D_1 0), (D_1 1), (D_1 2), x17, x17, (D_2 0), (D_2 1), (D_2 2), x22, x23, x24, x25, x26, x27, x28, x29, x30, x30, (D_3 0), (D_3 1), (D_3 2), (D_3 3), (D_3 4), (D_3 5), (D_3 6), (D_3 7), x40, undef, undef, undef, undef, undef, undef, undef, undef, undef] ++ [undef, undef, undef, undef, undef, undef, undef, undef, undef, undef, undef]).toArray, []⟩ ∧ At w0 w h_1 ∧ K x40) H (fun hb_2 H => ?_) (fun hb_2 H => ?_) ?_
          · refine ls_p (d := some 32) (by kernel_rfl) (by rw [hb_2]; kernel_rfl) (p_off Try.underlying35 rfl (fun w => ⟨_, Try.sizeOf3 w⟩) rfl (by kernel_rfl) H) (fun x32 H => ?_)
            refine ls_y (d := some 33) (by kernel_rfl) (by rw [hb_2]; kernel_rfl) HA_4 (y_ld Try.isAgg3 (by kernel_rfl) H) (fun x33 H => ?_)
            refine ls_p (d := some 34) (by kernel_rfl) (by rw [hb_2]; kernel_rfl) (p_off Try.underlying35 rfl (fun w => ⟨_, Try.sizeOf3 w⟩) rfl (by kernel_rfl) H) (fun x34 H => ?_)
            refine ls_fr (b := ⟨([x0, x1, x2, x3, (.bool false), x5, x6, x7, x7, (D 0), (D 1), (D 2), x12, x12, (D_1 0), (D_1 1), (D_1 2), x17, x17, (D_2 0), (D_2 1), (D_2 2), x22, x23, x24, x25, x26, x27, x28, x29, x30, x30, x32, x33, x34, undef, undef, undef, undef, undef, undef, undef, undef, undef, undef, undef, undef, undef, undef, undef] ++ [undef, undef, undef, undef, undef, undef, undef, undef, undef, undef, undef]).toArray, []⟩) (by kernel_rfl) ?_
            refine ls_y (d := some 35) (by kernel_rfl) (by rw [hb_2]; kernel_rfl) HA_4 (y_ld Try.isAgg3 (by kernel_rfl) H) (fun x35 H => ?_)
            refine ls_p (d := some 36) (by kernel_rfl) (by rw [hb_2]; kernel_rfl) (p_off Try.underlying35 rfl (fun w => ⟨_, Try.sizeOf3 w⟩) rfl (by kernel_rfl) H) (fun x36 H => ?_)
            refine ls_y (d := some 37) (by kernel_rfl) (by rw [hb_2]; kernel_rfl) HA_4 (y_ld Try.isAgg3 (by kernel_rfl) H) (fun x37 H => ?_)
            refine ls_p (d := some 38) (by kernel_rfl) (by rw [hb_2]; kernel_rfl) (p_add (by kernel_rfl) (by kernel_rfl) H) (fun x38 H => ?_)
            refine ls_p (d := some 39) (by kernel_rfl) (by rw [hb_2]; kernel_rfl) (p_sLt (by kernel_rfl) (by kernel_rfl) H) (fun x39 H => ?_)
            refine ls_pick_t (x := x39) (by kernel_rfl) (by rw [hb_2]; kernel_rfl) (by kernel_rfl) ?_
            refine ls_nil ?_
            refine then_normal ?_
            exact ⟨(fun i => ([x32, x33, x34, x35, x36, x37, x38, x39]).getD i undef), x39, by kernel_rfl, HA_4, H⟩
          · refine ls_skip (d := some 32) (by kernel_rfl) (by rw [hb_2]; kernel_rfl) ?_
            refine ls_skip (d := some 33) (by kernel_rfl) (by rw [hb_2]; kernel_rfl) ?_
            refine ls_skip (d := some 34) (by kernel_rfl) (by rw [hb_2]; kernel_rfl) ?_
            refine ls_fr (b := ⟨([x0, x1, x2, x3, (.bool false), x5, x6, x7, x7, (D 0), (D 1), (D 2), x12, x12, (D_1 0), (D_1 1), (D_1 2), x17, x17, (D_2 0), (D_2 1), (D_2 2), x22, x23, x24, x25, x26, x27, x28, x29, x30, x30, undef, undef, undef, undef, undef, undef, undef, undef, undef, undef, undef, undef, undef, undef, undef, undef, undef, undef] ++ [undef, undef, undef, undef, undef, undef, undef, undef, undef, undef, undef]).toArray, []⟩) (by kernel_rfl) ?_
            refine ls_skip (d := some 35) (by kernel_rfl) (by rw [hb_2]; kernel_rfl) ?_
            refine ls_skip (d := some 36) (by kernel_rfl) (by rw [hb_2]; kernel_rfl) ?_
            refine ls_skip (d := some 37) (by kernel_rfl) (by rw [hb_2]; kernel_rfl) ?_
            refine ls_skip (d := some 38) (by kernel_rfl) (by rw [hb_2]; kernel_rfl) ?_
            refine ls_skip (d := some 39) (by kernel_rfl) (by rw [hb_2]; kernel_rfl) ?_
            refine ls_pick_f (y := (.bool false)) (by kernel_rfl) (by rw [hb_2]; kernel_rfl) (by kernel_rfl) ?_
            refine ls_nil ?_
            refine then_normal ?_
            exact ⟨(fun i => ([undef, undef, undef, undef, undef, undef, undef, undef]).getD i undef), (.bool false), by kernel_rfl, HA_4, H⟩
          · rintro _ w_5 ⟨D_3, x40, rfl, HA_5, H⟩
            refine ls_move (x := x40) (by kernel_rfl) (by kernel_rfl) ?_
            refine ls_and [(), (), (), (), (), (), (), (), ()] (fun K a w => ∃ (D_4 : Nat → Value) (x50 : Value), a = ⟨([x0, x1, x2, x3, (.bool false), x5, x6, x7, x7, (D 0), (D 1), (D 2), x12, x12, (D_1 0), (D_1 1), (D_1 2), x17, x17, (D_2 0), (D_2 1), (D_2 2), x22, x23, x24, x25, x26, x27, x28, x29, x30, x30, (D_3 0), (D_3 1), (D_3 2), (D_3 3), (D_3 4), (D_3 5), (D_3 6), (D_3 7), x40, x40, (D_4 0), (D_4 1), (D_4 2), (D_4 3), (D_4 4), (D_4 5), (D_4 6), (D_4 7)] ++ [x50, undef, undef, undef, undef, undef, undef, undef, undef, undef, undef]).toArray, []⟩ ∧ At w0 w h_1 ∧ K x50) H (fun hb_1 H => ?_) (fun hb_1 H => ?_) ?_
            · refine ls_p (d := some 42) (by kernel_rfl) (by rw [hb_1]; kernel_rfl) (p_off Try.underlying35 rfl (fun w => ⟨_, Try.sizeOf3 w⟩) rfl (by kernel_rfl) H) (fun x42 H => ?_)
              refine ls_y (d := some 43) (by kernel_rfl) (by rw [hb_1]; kernel_rfl) HA_5 (y_ld Try.isAgg3 (by kernel_rfl) H) (fun x43 H => ?_)
              refine ls_p (d := some 44) (by kernel_rfl) (by rw [hb_1]; kernel_rfl) (p_off Try.underlying35 rfl (fun w => ⟨_, Try.sizeOf3 w⟩) rfl (by kernel_rfl) H) (fun x44 H => ?_)
              refine ls_y (d := some 45) (by kernel_rfl) (by rw [hb_1]; kernel_rfl) HA_5 (y_ld Try.isAgg3 (by kernel_rfl) H) (fun x45 H => ?_)
              refine ls_p (d := some 46) (by kernel_rfl) (by rw [hb_1]; kernel_rfl) (p_off Try.underlying35 rfl (fun w => ⟨_, Try.sizeOf3 w⟩) rfl (by kernel_rfl) H) (fun x46 H => ?_)
              refine ls_fr (b := ⟨([x0, x1, x2, x3, (.bool false), x5, x6, x7, x7, (D 0), (D 1), (D 2), x12, x12, (D_1 0), (D_1 1), (D_1 2), x17, x17, (D_2 0), (D_2 1), (D_2 2), x22, x23, x24, x25, x26, x27, x28, x29, x30, x30, (D_3 0), (D_3 1), (D_3 2), (D_3 3), (D_3 4), (D_3 5), (D_3 6), (D_3 7), x40, x40, x42, x43, x44, x45, x46, undef, undef, undef] ++ [undef, undef, undef, undef, undef, undef, undef, undef, undef, undef, undef]).toArray, []⟩) (by kernel_rfl) ?_
              refine ls_y (d := some 47) (by kernel_rfl) (by rw [hb_1]; kernel_rfl) HA_5 (y_ld Try.isAgg3 (by kernel_rfl) H) (fun x47 H => ?_)
              refine ls_p (d := some 48) (by kernel_rfl) (by rw [hb_1]; kernel_rfl) (p_add (by kernel_rfl) (by kernel_rfl) H) (fun x48 H => ?_)
              refine ls_p (d := some 49) (by kernel_rfl) (by rw [hb_1]; kernel_rfl) (p_sLt (by kernel_rfl) (by kernel_rfl) H) (fun x49 H => ?_)
              refine ls_pick_t (x := x49) (by kernel_rfl) (by rw [hb_1]; kernel_rfl) (by kernel_rfl) ?_
              refine ls_nil ?_
              refine then_normal ?_
              exact ⟨(fun i => ([x42, x43, x44, x45, x46, x47, x48, x49]).getD i undef), x49, by kernel_rfl, HA_5, H⟩
            · refine ls_skip (d := some 42) (by kernel_rfl) (by rw [hb_1]; kernel_rfl) ?_
              refine ls_skip (d := some 43) (by kernel_rfl) (by rw [hb_1]; kernel_rfl) ?_
              refine ls_skip (d := some 44) (by kernel_rfl) (by rw [hb_1]; kernel_rfl) ?_
              refine ls_skip (d := some 45) (by kernel_rfl) (by rw [hb_1]; kernel_rfl) ?_
              refine ls_skip (d := some 46) (by kernel_rfl) (by rw [hb_1]; kernel_rfl) ?_
              refine ls_fr (b := ⟨([x0, x1, x2, x3, (.bool false), x5, x6, x7, x7, (D 0), (D 1), (D 2), x12, x12, (D_1 0), (D_1 1), (D_1 2), x17, x17, (D_2 0), (D_2 1), (D_2 2), x22, x23, x24, x25, x26, x27, x28, x29, x30, x30, (D_3 0), (D_3 1), (D_3 2), (D_3 3), (D_3 4), (D_3 5), (D_3 6), (D_3 7), x40, x40, undef, undef, undef, undef, undef, undef, undef, undef] ++ [undef, undef, undef, undef, undef, undef, undef, undef, undef, undef, undef]).toArray, []⟩) (by kernel_rfl) ?_
              refine ls_skip (d := some 47) (by kernel_rfl) (by rw [hb_1]; kernel_rfl) ?_
              refine ls_skip (d := some 48) (by kernel_rfl) (by rw [hb_1]; kernel_rfl) ?_
              refine ls_skip (d := some 49) (by kernel_rfl) (by rw [hb_1]; kernel_rfl) ?_
              refine ls_pick_f (y := (.bool false)) (by kernel_rfl) (by rw [hb_1]; kernel_rfl) (by kernel_rfl) ?_
              refine ls_nil ?_
              refine then_normal ?_
              exact ⟨(fun i => ([undef, undef, undef, undef, undef, undef, undef, undef]).getD i undef), (.bool false), by kernel_rfl, HA_5, H⟩
            · rintro _ w_6 ⟨D_4, x50, rfl, HA_6, H⟩
              refine ls_move (x := x50) (by kernel_rfl) (by kernel_rfl) ?_
              refine ls_and [(), (), (), (), (), (), (), (), ()] (fun K a w => ∃ (D_5 : Nat → Value) (x60 : Value), a = ⟨([x0, x1, x2, x3, (.bool false), x5, x6, x7, x7, (D 0), (D 1), (D 2), x12, x12, (D_1 0), (D_1 1), (D_1 2), x17, x17, (D_2 0), (D_2 1), (D_2 2), x22, x23, x24, x25, x26, x27, x28, x29, x30, x30, (D_3 0), (D_3 1), (D_3 2), (D_3 3), (D_3 4), (D_3 5), (D_3 6), (D_3 7), x40, x40, (D_4 0), (D_4 1), (D_4 2), (D_4 3), (D_4 4), (D_4 5), (D_4 6), (D_4 7)] ++ [x50, x50, (D_5 0), (D_5 1), (D_5 2), (D_5 3), (D_5 4), (D_5 5), (D_5 6), (D_5 7), x60]).toArray, []⟩ ∧ At w0 w h_1 ∧ K x60) H (fun hb H => ?_) (fun hb H => ?_) ?_
              · refine ls_p (d := some 52) (by kernel_rfl) (by rw [hb]; kernel_rfl) (p_off Try.underlying35 rfl (fun w => ⟨_, Try.sizeOf3 w⟩) rfl (by kernel_rfl) H) (fun x52 H => ?_)
                refine ls_y (d := some 53) (by kernel_rfl) (by rw [hb]; kernel_rfl) HA_6 (y_ld Try.isAgg3 (by kernel_rfl) H) (fun x53 H => ?_)
                refine ls_p (d := some 54) (by kernel_rfl) (by rw [hb]; kernel_rfl) (p_off Try.underlying35 rfl (fun w => ⟨_, Try.sizeOf3 w⟩) rfl (by kernel_rfl) H) (fun x54 H => ?_)
                refine ls_y (d := some 55) (by kernel_rfl) (by rw [hb]; kernel_rfl) HA_6 (y_ld Try.isAgg3 (by kernel_rfl) H) (fun x55 H => ?_)
                refine ls_p (d := some 56) (by kernel_rfl) (by rw [hb]; kernel_rfl) (p_off Try.underlying35 rfl (fun w => ⟨_, Try.sizeOf3 w⟩) rfl (by kernel_rfl) H) (fun x56 H => ?_)
                refine ls_fr (b := ⟨([x0, x1, x2, x3, (.bool false), x5, x6, x7, x7, (D 0), (D 1), (D 2), x12, x12, (D_1 0), (D_1 1), (D_1 2), x17, x17, (D_2 0), (D_2 1), (D_2 2), x22, x23, x24, x25, x26, x27, x28, x29, x30, x30, (D_3 0), (D_3 1), (D_3 2), (D_3 3), (D_3 4), (D_3 5), (D_3 6), (D_3 7), x40, x40, (D_4 0), (D_4 1), (D_4 2), (D_4 3), (D_4 4), (D_4 5), (D_4 6), (D_4 7)] ++ [x50, x50, x52, x53, x54, x55, x56, undef, undef, undef, undef]).toArray, []⟩) (by kernel_rfl) ?_
                refine ls_y (d := some 57) (by kernel_rfl) (by rw [hb]; kernel_rfl) HA_6 (y_ld Try.isAgg3 (by kernel_rfl) H) (fun x57 H => ?_)
                refine ls_p (d := some 58) (by kernel_rfl) (by rw [hb]; kernel_rfl) (p_add (by kernel_rfl) (by kernel_rfl) H) (fun x58 H => ?_)
                refine ls_p (d := some 59) (by kernel_rfl) (by rw [hb]; kernel_rfl) (p_sLt (by kernel_rfl) (by kernel_rfl) H) (fun x59 H => ?_)
                refine ls_pick_t (x := x59) (by kernel_rfl) (by rw [hb]; kernel_rfl) (by kernel_rfl) ?_
                refine ls_nil ?_
                refine then_normal ?_
                exact ⟨(fun i => ([x52, x53, x54, x55, x56, x57, x58, x59]).getD i undef), x59, by kernel_rfl, HA_6, H⟩
              · refine ls_skip (d := some 52) (by kernel_rfl) (by rw [hb]; kernel_rfl) ?_
                refine ls_skip (d := some 53) (by kernel_rfl) (by rw [hb]; kernel_rfl) ?_
                refine ls_skip (d := some 54) (by kernel_rfl) (by rw [hb]; kernel_rfl) ?_
                refine ls_skip (d := some 55) (by kernel_rfl) (by rw [hb]; kernel_rfl) ?_
                refine ls_skip (d := some 56) (by kernel_rfl) (by rw [hb]; kernel_rfl) ?_
                refine ls_fr (b := ⟨([x0, x1, x2, x3, (.bool false), x5, x6, x7, x7, (D 0), (D 1), (D 2), x12, x12, (D_1 0), (D_1 1), (D_1 2), x17, x17, (D_2 0), (D_2 1), (D_2 2), x22, x23, x24, x25, x26, x27, x28, x29, x30, x30, (D_3 0), (D_3 1), (D_3 2), (D_3 3), (D_3 4), (D_3 5), (D_3 6), (D_3 7), x40, x40, (D_4 0), (D_4 1), (D_4 2), (D_4 3), (D_4 4), (D_4 5), (D_4 6), (D_4 7)] ++ [x50, x50, undef, undef, undef, undef, undef, undef, undef, undef, undef]).toArray, []⟩) (by kernel_rfl) ?_
                refine ls_skip (d := some 57) (by kernel_rfl) (by rw [hb]; kernel_rfl) ?_
                refine ls_skip (d := some 58) (by kernel_rfl) (by rw [hb]; kernel_rfl) ?_
                refine ls_skip (d := some 59) (by kernel_rfl) (by rw [hb]; kernel_rfl) ?_
                refine ls_pick_f (y := (.bool false)) (by kernel_rfl) (by rw [hb]; kernel_rfl) (by kernel_rfl) ?_
                refine ls_nil ?_
                refine then_normal ?_
                exact ⟨(fun i => ([undef, undef, undef, undef, undef, undef, undef, undef]).getD i undef), (.bool false), by kernel_rfl, HA_6, H⟩
              · rintro _ w_7 ⟨D_5, x60, rfl, HA_7, H⟩
                refine ls_assign (x := x60) (by kernel_rfl) (by kernel_rfl) ?_
                refine ls_nil ?_
                refine then_normal ?_
                refine fr_eq (b := ⟨([x0, x1, x2, x3, x60, x5, x6, x7, x7, (D 0), (D 1), (D 2), x12, x12, (D_1 0), (D_1 1), (D_1 2), x17, x17, (D_2 0), (D_2 1), (D_2 2), x22, x23, x24, x25, x26, x27, x28, x29, x30, x30, (D_3 0), (D_3 1), (D_3 2), (D_3 3), (D_3 4), (D_3 5), (D_3 6), (D_3 7), x40, x40, (D_4 0), (D_4 1), (D_4 2), (D_4 3), (D_4 4), (D_4 5), (D_4 6), (D_4 7)] ++ [x50, x50, (D_5 0), (D_5 1), (D_5 2), (D_5 3), (D_5 4), (D_5 5), (D_5 6), (D_5 7), x60]).toArray, []⟩) (by kernel_rfl) ?_
                refine wp_ret ?_
                exact end1 (Try.results65) (by kernel_rfl) (by kernel_rfl) HA_7 H _ (.inr rfl)

end Go.Proofs.Ytecoejjpdogklaa
