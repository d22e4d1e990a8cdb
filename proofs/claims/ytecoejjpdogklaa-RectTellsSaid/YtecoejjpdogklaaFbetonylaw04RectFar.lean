/- The shallow reading of one function, and that the function does it. Written by a program. -/
import Derived.Test.YtecoejjpdogklaaFnC
set_option linter.unusedVariables false
namespace Go.Proofs.Ytecoejjpdogklaa
open Go Go.HW

def betonylaw04_RectFar_S (x0 x1 x2 : Value) (h : Heap) (R : Value → Heap → Prop) : Prop :=
  sBox h x0 35 fun x3 h => 
  sLdN h x3 4 fun x7 =>
  rect_In_c x7 x1 x2 h fun x10 h_1 => 
  sAnd x10 (fun k_8 =>
  sOff x3 2 fun x12 =>
  sLd h_1 x12 fun x13 =>
  sLt x13 (.int .i64 1) fun x14 =>
  sOr x14 (fun k_11 =>
  sOff x3 3 fun x16 =>
  sLd h_1 x16 fun x17 =>
  sLt x17 (.int .i64 1) fun x18 =>
  k_11 x18) fun x19 =>
  sOr x19 (fun k_10 =>
  sOff x3 0 fun x22 =>
  sLd h_1 x22 fun x23 =>
  sLt x1 x23 fun x24 =>
  k_10 x24) fun x25 =>
  sOr x25 (fun k_9 =>
  sOff x3 1 fun x28 =>
  sLd h_1 x28 fun x29 =>
  sLt x2 x29 fun x30 =>
  k_9 x30) fun x31 =>
  k_8 x31) fun x32 =>
  sIf x32 (R (.bool false) h_1) (sLdN h_1 x3 4 fun x33 =>
  betonyref04_Right_c x33 h_1 fun x34 h_2 => 
  sAnd x34 (fun k_4 =>
  sGt x1 (.int .i64 4294967296) fun x37 =>
  sOr x37 (fun k_7 =>
  sGt x2 (.int .i64 4294967296) fun x40 =>
  k_7 x40) fun x41 =>
  sOr x41 (fun k_6 =>
  sLt x1 (.int .i64 (-4294967296)) fun x44 =>
  k_6 x44) fun x45 =>
  sOr x45 (fun k_5 =>
  sLt x2 (.int .i64 (-4294967296)) fun x48 =>
  k_5 x48) fun x49 =>
  k_4 x49) fun x50 =>
  sAndH x50 h_2 (fun k_3 =>
  sLdN h_2 x3 4 fun x52 =>
  rect_In_c x52 x1 x2 h_2 fun x55 h_8 => 
  k_3 x55 h_8) fun x56 h_3 =>
  sIf x56 (R (.bool false) h_3) (sOff x3 2 fun x57 =>
  sLd h_3 x57 fun x58 =>
  sLt x58 (.int .i64 1) fun x59 =>
  sOr x59 (fun k_2 =>
  sOff x3 3 fun x61 =>
  sLd h_3 x61 fun x62 =>
  sLt x62 (.int .i64 1) fun x63 =>
  k_2 x63) fun x64 =>
  sOrH x64 h_3 (fun k_1 =>
  sLdN h_3 x3 4 fun x66 =>
  sOff x3 0 fun x67 =>
  sLd h_3 x67 fun x68 =>
  sOff x3 1 fun x69 =>
  sLd h_3 x69 fun x70 =>
  rect_In_c x66 x68 x70 h_3 fun x71 h_7 => 
  k_1 x71 h_7) fun x72 h_4 =>
  sAndH x72 h_4 (fun k =>
  betonylaw04_awake_c  h_4 fun x74 h_6 => 
  k x74 h_6) fun x75 h_5 =>
  R x75 h_5))
set_option maxRecDepth 100000 in
theorem betonylaw04_RectFar_runs {x0 x1 x2 : Value} {h : Heap} {R : Value → Heap → Prop} (H : betonylaw04_RectFar_S x0 x1 x2 h R) : betonylaw04_RectFar_c x0 x1 x2 h R := by
  unfold betonylaw04_RectFar_S at H
  refine runs_of (b := ⟨([x0, x1, x2, undef, undef, undef, undef, undef, undef, undef, undef, undef, undef, undef, undef, undef, undef, undef, undef, undef, undef, undef, undef, undef, undef, undef, undef, undef, undef, undef, undef, undef, undef, undef, undef, undef, undef, undef, undef, undef, undef, undef, undef, undef, undef, undef, undef, undef, undef, undef] ++ [undef, undef, undef, undef, undef, undef, undef, undef, undef, undef, undef, undef, undef, undef, undef, undef, undef, undef, undef, undef, undef, undef, undef, undef, undef, undef]).toArray, []⟩) Try.call7 Try.func7 rfl (by kernel_rfl) (fun w0 HA => ?_)
  refine wp_seq ?_
  refine lwp_list ?_
  refine ls_d (d := some 3) (by kernel_rfl) (by kernel_rfl) HA (d_box (by kernel_rfl) H) (fun x3 h w H HA => ?_)
  refine ls_assign (x := (.bool false)) (by kernel_rfl) (by kernel_rfl) ?_
  refine ls_nil ?_
  refine then_normal ?_
  refine fr_eq (b := ⟨([x0, x1, x2, x3, undef, undef, (.bool false), undef, undef, undef, undef, undef, undef, undef, undef, undef, undef, undef, undef, undef, undef, undef, undef, undef, undef, undef, undef, undef, undef, undef, undef, undef, undef, undef, undef, undef, undef, undef, undef, undef, undef, undef, undef, undef, undef, undef, undef, undef, undef, undef] ++ [undef, undef, undef, undef, undef, undef, undef, undef, undef, undef, undef, undef, undef, undef, undef, undef, undef, undef, undef, undef, undef, undef, undef, undef, undef, undef]).toArray, []⟩) (by kernel_rfl) ?_
  refine wp_seq ?_
  refine wp_seq ?_
  refine lwp_list ?_
  refine ls_y (d := some 7) (by kernel_rfl) (by kernel_rfl) HA (y_ldn Try.isAgg35 Try.sizeOf35 (by kernel_rfl) H) (fun x7 H => ?_)
  refine ls_move (x := x1) (by kernel_rfl) (by kernel_rfl) ?_
  refine ls_move (x := x2) (by kernel_rfl) (by kernel_rfl) ?_
  refine ls_d (d := some 10) (by kernel_rfl) (by kernel_rfl) HA (d_call (by kernel_rfl) (by kernel_rfl) H) (fun x10 h_1 w_1 H HA_1 => ?_)
  refine ls_move (x := x10) (by kernel_rfl) (by kernel_rfl) ?_
  refine ls_and [(), (), (), (), (), (), (), (), (), (), (), (), (), (), (), (), (), (), (), (), ()] (fun K a w => ∃ (D : Nat → Value) (x32 : Value), a = ⟨([x0, x1, x2, x3, undef, undef, (.bool false), x7, x1, x2, x10, x10, (D 0), (D 1), (D 2), (D 3), (D 4), (D 5), (D 6), (D 7), (D 8), (D 9), (D 10), (D 11), (D 12), (D 13), (D 14), (D 15), (D 16), (D 17), (D 18), (D 19), x32, undef, undef, undef, undef, undef, undef, undef, undef, undef, undef, undef, undef, undef, undef, undef, undef, undef] ++ [undef, undef, undef, undef, undef, undef, undef, undef, undef, undef, undef, undef, undef, undef, undef, undef, undef, undef, undef, undef, undef, undef, undef, undef, undef, undef]).toArray, []⟩ ∧ At w0 w h_1 ∧ K x32) H (fun hb_8 H => ?_) (fun hb_8 H => ?_) ?_
  · refine ls_p (d := some 12) (by kernel_rfl) (by rw [hb_8]; kernel_rfl) (p_off Try.underlying35 rfl (fun w => ⟨_, Try.sizeOf3 w⟩) rfl (by kernel_rfl) H) (fun x12 H => ?_)
    refine ls_fr (b := ⟨([x0, x1, x2, x3, undef, undef, (.bool false), x7, x1, x2, x10, x10, x12, undef, undef, undef, undef, undef, undef, undef, undef, undef, undef, undef, undef, undef, undef, undef, undef, undef, undef, undef, undef, undef, undef, undef, undef, undef, undef, undef, undef, undef, undef, undef, undef, undef, undef, undef, undef, undef] ++ [undef, undef, undef, undef, undef, undef, undef, undef, undef, undef, undef, undef, undef, undef, undef, undef, undef, undef, undef, undef, undef, undef, undef, undef, undef, undef]).toArray, []⟩) (by kernel_rfl) ?_
    refine ls_y (d := some 13) (by kernel_rfl) (by rw [hb_8]; kernel_rfl) HA_1 (y_ld Try.isAgg3 (by kernel_rfl) H) (fun x13 H => ?_)
    refine ls_p (d := some 14) (by kernel_rfl) (by rw [hb_8]; kernel_rfl) (p_sLt (by kernel_rfl) (by kernel_rfl) H) (fun x14 H => ?_)
    refine ls_move (x := x14) (by rw [hb_8]; kernel_rfl) (by kernel_rfl) ?_
    refine ls_or [(), (), (), ()] (fun K a w => ∃ (D_9 : Nat → Value) (x19 : Value), a = ⟨([x0, x1, x2, x3, undef, undef, (.bool false), x7, x1, x2, x10, x10, x12, x13, x14, x14, (D_9 0), (D_9 1), (D_9 2), x19, undef, undef, undef, undef, undef, undef, undef, undef, undef, undef, undef, undef, undef, undef, undef, undef, undef, undef, undef, undef, undef, undef, undef, undef, undef, undef, undef, undef, undef, undef] ++ [undef, undef, undef, undef, undef, undef, undef, undef, undef, undef, undef, undef, undef, undef, undef, undef, undef, undef, undef, undef, undef, undef, undef, undef, undef, undef]).toArray, []⟩ ∧ At w0 w h_1 ∧ K x19) H (fun hb_11 H => ?_) (fun hb_11 H => ?_) ?_
    · refine ls_p (d := some 16) (by kernel_rfl) (by rw [hb_11]; kernel_rfl) (p_off Try.underlying35 rfl (fun w => ⟨_, Try.sizeOf3 w⟩) rfl (by kernel_rfl) H) (fun x16 H => ?_)
      refine ls_y (d := some 17) (by kernel_rfl) (by rw [hb_11]; kernel_rfl) HA_1 (y_ld Try.isAgg3 (by kernel_rfl) H) (fun x17 H => ?_)
      refine ls_p (d := some 18) (by kernel_rfl) (by rw [hb_11]; kernel_rfl) (p_sLt (by kernel_rfl) (by kernel_rfl) H) (fun x18 H => ?_)
      refine ls_fr (b := ⟨([x0, x1, x2, x3, undef, undef, (.bool false), x7, x1, x2, x10, x10, x12, x13, x14, x14, x16, x17, x18, undef, undef, undef, undef, undef, undef, undef, undef, undef, undef, undef, undef, undef, undef, undef, undef, undef, undef, undef, undef, undef, undef, undef, undef, undef, undef, undef, undef, undef, undef, undef] ++ [undef, undef, undef, undef, undef, undef, undef, undef, undef, undef, undef, undef, undef, undef, undef, undef, undef, undef, undef, undef, undef, undef, undef, undef, undef, undef]).toArray, []⟩) (by kernel_rfl) ?_
      refine ls_pick_f (y := x18) (by rw [hb_8]; kernel_rfl) (by rw [hb_11]; kernel_rfl) (by kernel_rfl) ?_
      refine ls_nil ?_
      refine then_normal ?_
      exact ⟨(fun i => ([x16, x17, x18]).getD i undef), x18, by kernel_rfl, HA_1, H⟩
    · refine ls_skip (d := some 16) (by kernel_rfl) (by rw [hb_11]; kernel_rfl) ?_
      refine ls_skip (d := some 17) (by kernel_rfl) (by rw [hb_11]; kernel_rfl) ?_
      refine ls_skip (d := some 18) (by kernel_rfl) (by rw [hb_11]; kernel_rfl) ?_
      refine ls_fr (b := ⟨([x0, x1, x2, x3, undef, undef, (.bool false), x7, x1, x2, x10, x10, x12, x13, x14, x14, undef, undef, undef, undef, undef, undef, undef, undef, undef, undef, undef, undef, undef, undef, undef, undef, undef, undef, undef, undef, undef, undef, undef, undef, undef, undef, undef, undef, undef, undef, undef, undef, undef, undef] ++ [undef, undef, undef, undef, undef, undef, undef, undef, undef, undef, undef, undef, undef, undef, undef, undef, undef, undef, undef, undef, undef, undef, undef, undef, undef, undef]).toArray, []⟩) (by kernel_rfl) ?_
      refine ls_pick_t (x := (.bool true)) (by rw [hb_8]; kernel_rfl) (by rw [hb_11]; kernel_rfl) (by kernel_rfl) ?_
      refine ls_nil ?_
      refine then_normal ?_
      exact ⟨(fun i => ([undef, undef, undef]).getD i undef), (.bool true), by kernel_rfl, HA_1, H⟩
    · rintro _ w_15 ⟨D_9, x19, rfl, HA_15, H⟩
      refine ls_move (x := x19) (by rw [hb_8]; kernel_rfl) (by kernel_rfl) ?_
      refine ls_or [(), (), (), (), ()] (fun K a w => ∃ (D_10 : Nat → Value) (x25 : Value), a = ⟨([x0, x1, x2, x3, undef, undef, (.bool false), x7, x1, x2, x10, x10, x12, x13, x14, x14, (D_9 0), (D_9 1), (D_9 2), x19, x19, (D_10 0), (D_10 1), (D_10 2), (D_10 3), x25, undef, undef, undef, undef, undef, undef, undef, undef, undef, undef, undef, undef, undef, undef, undef, undef, undef, undef, undef, undef, undef, undef, undef, undef] ++ [undef, undef, undef, undef, undef, undef, undef, undef, undef, undef, undef, undef, undef, undef, undef, undef, undef, undef, undef, undef, undef, undef, undef, undef, undef, undef]).toArray, []⟩ ∧ At w0 w h_1 ∧ K x25) H (fun hb_10 H => ?_) (fun hb_10 H => ?_) ?_
      · refine ls_move (x := x1) (by rw [hb_10]; kernel_rfl) (by kernel_rfl) ?_
        refine ls_p (d := some 22) (by kernel_rfl) (by rw [hb_10]; kernel_rfl) (p_off Try.underlying35 rfl (fun w => ⟨_, Try.sizeOf3 w⟩) rfl (by kernel_rfl) H) (fun x22 H => ?_)
        refine ls_y (d := some 23) (by kernel_rfl) (by rw [hb_10]; kernel_rfl) HA_15 (y_ld Try.isAgg3 (by kernel_rfl) H) (fun x23 H => ?_)
        refine ls_p (d := some 24) (by kernel_rfl) (by rw [hb_10]; kernel_rfl) (p_sLt (by kernel_rfl) (by kernel_rfl) H) (fun x24 H => ?_)
        refine ls_pick_f (y := x24) (by rw [hb_8]; kernel_rfl) (by rw [hb_10]; kernel_rfl) (by kernel_rfl) ?_
        refine ls_nil ?_
        refine then_normal ?_
        exact ⟨(fun i => ([x1, x22, x23, x24]).getD i undef), x24, by kernel_rfl, HA_15, H⟩
      · refine ls_skip (d := some 21) (by kernel_rfl) (by rw [hb_10]; kernel_rfl) ?_
        refine ls_skip (d := some 22) (by kernel_rfl) (by rw [hb_10]; kernel_rfl) ?_
        refine ls_skip (d := some 23) (by kernel_rfl) (by rw [hb_10]; kernel_rfl) ?_
        refine ls_skip (d := some 24) (by kernel_rfl) (by rw [hb_10]; kernel_rfl) ?_
        refine ls_pick_t (x := (.bool true)) (by rw [hb_8]; kernel_rfl) (by rw [hb_10]; kernel_rfl) (by kernel_rfl) ?_
        refine ls_nil ?_
        refine then_normal ?_
        exact ⟨(fun i => ([undef, undef, undef, undef]).getD i undef), (.bool true), by kernel_rfl, HA_15, H⟩
      · rintro _ w_16 ⟨D_10, x25, rfl, HA_16, H⟩
        refine ls_move (x := x25) (by rw [hb_8]; kernel_rfl) (by kernel_rfl) ?_
        refine ls_or [(), (), (), (), ()] (fun K a w => ∃ (D_11 : Nat → Value) (x31 : Value), a = ⟨([x0, x1, x2, x3, undef, undef, (.bool false), x7, x1, x2, x10, x10, x12, x13, x14, x14, (D_9 0), (D_9 1), (D_9 2), x19, x19, (D_10 0), (D_10 1), (D_10 2), (D_10 3), x25, x25, (D_11 0), (D_11 1), (D_11 2), (D_11 3), x31, undef, undef, undef, undef, undef, undef, undef, undef, undef, undef, undef, undef, undef, undef, undef, undef, undef, undef] ++ [undef, undef, undef, undef, undef, undef, undef, undef, undef, undef, undef, undef, undef, undef, undef, undef, undef, undef, undef, undef, undef, undef, undef, undef, undef, undef]).toArray, []⟩ ∧ At w0 w h_1 ∧ K x31) H (fun hb_9 H => ?_) (fun hb_9 H => ?_) ?_
        · refine ls_move (x := x2) (by rw [hb_9]; kernel_rfl) (by kernel_rfl) ?_
          refine ls_p (d := some 28) (by kernel_rfl) (by rw [hb_9]; kernel_rfl) (p_off Try.underlying35 rfl (fun w => ⟨_, Try.sizeOf3 w⟩) rfl (by kernel_rfl) H) (fun x28 H => ?_)
          refine ls_y (d := some 29) (by kernel_rfl) (by rw [hb_9]; kernel_rfl) HA_16 (y_ld Try.isAgg3 (by kernel_rfl) H) (fun x29 H => ?_)
          refine ls_p (d := some 30) (by kernel_rfl) (by rw [hb_9]; kernel_rfl) (p_sLt (by kernel_rfl) (by kernel_rfl) H) (fun x30 H => ?_)
          refine ls_pick_f (y := x30) (by rw [hb_8]; kernel_rfl) (by rw [hb_9]; kernel_rfl) (by kernel_rfl) ?_
          refine ls_nil ?_
          refine then_normal ?_
          exact ⟨(fun i => ([x2, x28, x29, x30]).getD i undef), x30, by kernel_rfl, HA_16, H⟩
        · refine ls_skip (d := some 27) (by kernel_rfl) (by rw [hb_9]; kernel_rfl) ?_
          refine ls_skip (d := some 28) (by kernel_rfl) (by rw [hb_9]; kernel_rfl) ?_
          refine ls_skip (d := some 29) (by kernel_rfl) (by rw [hb_9]; kernel_rfl) ?_
          refine ls_skip (d := some 30) (by kernel_rfl) (by rw [hb_9]; kernel_rfl) ?_
          refine ls_pick_t (x := (.bool true)) (by rw [hb_8]; kernel_rfl) (by rw [hb_9]; kernel_rfl) (by kernel_rfl) ?_
          refine ls_nil ?_
          refine then_normal ?_
          exact ⟨(fun i => ([undef, undef, undef, undef]).getD i undef), (.bool true), by kernel_rfl, HA_16, H⟩
        · rintro _ w_17 ⟨D_11, x31, rfl, HA_17, H⟩
          refine ls_pick_t (x := x31) (by kernel_rfl) (by rw [hb_8]; kernel_rfl) (by kernel_rfl) ?_
          refine ls_nil ?_
          refine then_normal ?_
          exact ⟨(fun i => ([x12, x13, x14, x14, (D_9 0), (D_9 1), (D_9 2), x19, x19, (D_10 0), (D_10 1), (D_10 2), (D_10 3), x25, x25, (D_11 0), (D_11 1), (D_11 2), (D_11 3), x31]).getD i undef), x31, by kernel_rfl, HA_17, H⟩
  · refine ls_skip (d := some 12) (by kernel_rfl) (by rw [hb_8]; kernel_rfl) ?_
    refine ls_fr (b := ⟨([x0, x1, x2, x3, undef, undef, (.bool false), x7, x1, x2, x10, x10, undef, undef, undef, undef, undef, undef, undef, undef, undef, undef, undef, undef, undef, undef, undef, undef, undef, undef, undef, undef, undef, undef, undef, undef, undef, undef, undef, undef, undef, undef, undef, undef, undef, undef, undef, undef, undef, undef] ++ [undef, undef, undef, undef, undef, undef, undef, undef, undef, undef, undef, undef, undef, undef, undef, undef, undef, undef, undef, undef, undef, undef, undef, undef, undef, undef]).toArray, []⟩) (by kernel_rfl) ?_
    refine ls_skip (d := some 13) (by kernel_rfl) (by rw [hb_8]; kernel_rfl) ?_
    refine ls_skip (d := some 14) (by kernel_rfl) (by rw [hb_8]; kernel_rfl) ?_
    refine ls_skip (d := some 15) (by kernel_rfl) (by rw [hb_8]; kernel_rfl) ?_
    refine ls_skip (d := some 16) (by kernel_rfl) (by kernel_rfl) ?_
    refine ls_skip (d := some 17) (by kernel_rfl) (by kernel_rfl) ?_
    refine ls_skip (d := some 18) (by kernel_rfl) (by kernel_rfl) ?_
    refine ls_fr (b := ⟨([x0, x1, x2, x3, undef, undef, (.bool false), x7, x1, x2, x10, x10, undef, undef, undef, undef, undef, undef, undef, undef, undef, undef, undef, undef, undef, undef, undef, undef, undef, undef, undef, undef, undef, undef, undef, undef, undef, undef, undef, undef, undef, undef, undef, undef, undef, undef, undef, undef, undef, undef] ++ [undef, undef, undef, undef, undef, undef, undef, undef, undef, undef, undef, undef, undef, undef, undef, undef, undef, undef, undef, undef, undef, undef, undef, undef, undef, undef]).toArray, []⟩) (by kernel_rfl) ?_
    refine ls_skip (d := some 19) (by kernel_rfl) (by rw [hb_8]; kernel_rfl) ?_
    refine ls_skip (d := some 20) (by kernel_rfl) (by rw [hb_8]; kernel_rfl) ?_
    refine ls_skip (d := some 21) (by kernel_rfl) (by kernel_rfl) ?_
    refine ls_skip (d := some 22) (by kernel_rfl) (by kernel_rfl) ?_
    refine ls_skip (d := some 23) (by kernel_rfl) (by kernel_rfl) ?_
    refine ls_skip (d := some 24) (by kernel_rfl) (by kernel_rfl) ?_
    refine ls_fr (b := ⟨([x0, x1, x2, x3, undef, undef, (.bool false), x7, x1, x2, x10, x10, undef, undef, undef, undef, undef, undef, undef, undef, undef, undef, undef, undef, undef, undef, undef, undef, undef, undef, undef, undef, undef, undef, undef, undef, undef, undef, undef, undef, undef, undef, undef, undef, undef, undef, undef, undef, undef, undef] ++ [undef, undef, undef, undef, undef, undef, undef, undef, undef, undef, undef, undef, undef, undef, undef, undef, undef, undef, undef, undef, undef, undef, undef, undef, undef, undef]).toArray, []⟩) (by kernel_rfl) ?_
    refine ls_skip (d := some 25) (by kernel_rfl) (by rw [hb_8]; kernel_rfl) ?_
    refine ls_skip (d := some 26) (by kernel_rfl) (by rw [hb_8]; kernel_rfl) ?_
    refine ls_skip (d := some 27) (by kernel_rfl) (by kernel_rfl) ?_
    refine ls_skip (d := some 28) (by kernel_rfl) (by kernel_rfl) ?_
    refine ls_skip (d := some 29) (by kernel_rfl) (by kernel_rfl) ?_
    refine ls_skip (d := some 30) (by kernel_rfl) (by kernel_rfl) ?_
    refine ls_fr (b := ⟨([x0, x1, x2, x3, undef, undef, (.bool false), x7, x1, x2, x10, x10, undef, undef, undef, undef, undef, undef, undef, undef, undef, undef, undef, undef, undef, undef, undef, undef, undef, undef, undef, undef, undef, undef, undef, undef, undef, undef, undef, undef, undef, undef, undef, undef, undef, undef, undef, undef, undef, undef] ++ [undef, undef, undef, undef, undef, undef, undef, undef, undef, undef, undef, undef, undef, undef, undef, undef, undef, undef, undef, undef, undef, undef, undef, undef, undef, undef]).toArray, []⟩) (by kernel_rfl) ?_
    refine ls_skip (d := some 31) (by kernel_rfl) (by rw [hb_8]; kernel_rfl) ?_
    refine ls_pick_f (y := (.bool false)) (by kernel_rfl) (by rw [hb_8]; kernel_rfl) (by kernel_rfl) ?_
    refine ls_nil ?_
    refine then_normal ?_
    exact ⟨(fun i => ([undef, undef, undef, undef, undef, undef, undef, undef, undef, undef, undef, undef, undef, undef, undef, undef, undef, undef, undef, undef]).getD i undef), (.bool false), by kernel_rfl, HA_1, H⟩
  · rintro _ w_2 ⟨D, x32, rfl, HA_2, H⟩
    refine ls_nil ?_
    refine then_normal ?_
    refine fr_eq (b := ⟨([x0, x1, x2, x3, undef, undef, (.bool false), x7, x1, x2, x10, x10, (D 0), (D 1), (D 2), (D 3), (D 4), (D 5), (D 6), (D 7), (D 8), (D 9), (D 10), (D 11), (D 12), (D 13), (D 14), (D 15), (D 16), (D 17), (D 18), (D 19), x32, undef, undef, undef, undef, undef, undef, undef, undef, undef, undef, undef, undef, undef, undef, undef, undef, undef] ++ [undef, undef, undef, undef, undef, undef, undef, undef, undef, undef, undef, undef, undef, undef, undef, undef, undef, undef, undef, undef, undef, undef, undef, undef, undef, undef]).toArray, []⟩) (by kernel_rfl) ?_
    refine wp_if rfl H (fun H => ?_) (fun H => ?_)
    · refine wp_seq ?_
      refine lwp_list ?_
      refine ls_assign (x := (.bool false)) (by kernel_rfl) (by kernel_rfl) ?_
      refine ls_nil ?_
      refine then_normal ?_
      refine fr_eq (b := ⟨([x0, x1, x2, x3, undef, undef, (.bool false), x7, x1, x2, x10, x10, (D 0), (D 1), (D 2), (D 3), (D 4), (D 5), (D 6), (D 7), (D 8), (D 9), (D 10), (D 11), (D 12), (D 13), (D 14), (D 15), (D 16), (D 17), (D 18), (D 19), x32, undef, undef, undef, undef, undef, undef, undef, undef, undef, undef, undef, undef, undef, undef, undef, undef, undef] ++ [undef, undef, undef, undef, undef, undef, undef, undef, undef, undef, undef, undef, undef, undef, undef, undef, undef, undef, undef, undef, undef, undef, undef, undef, undef, undef]).toArray, []⟩) (by kernel_rfl) ?_
      refine wp_ret ?_
      refine then_ret ?_
      exact end1 (Try.results7) (by kernel_rfl) (by kernel_rfl) HA_2 H _ (.inr rfl)
    · refine wp_skip ?_
      refine then_normal ?_
      refine fr_eq (b := ⟨([x0, x1, x2, x3, undef, undef, (.bool false), x7, x1, x2, x10, x10, (D 0), (D 1), (D 2), (D 3), (D 4), (D 5), (D 6), (D 7), (D 8), (D 9), (D 10), (D 11), (D 12), (D 13), (D 14), (D 15), (D 16), (D 17), (D 18), (D 19), x32, undef, undef, undef, undef, undef, undef, undef, undef, undef, undef, undef, undef, undef, undef, undef, undef, undef] ++ [undef, undef, undef, undef, undef, undef, undef, undef, undef, undef, undef, undef, undef, undef, undef, undef, undef, undef, undef, undef, undef, undef, undef, undef, undef, undef]).toArray, []⟩) (by kernel_rfl) ?_
      refine wp_seq ?_
      refine wp_seq ?_
      refine lwp_list ?_
      refine ls_y (d := some 33) (by kernel_rfl) (by kernel_rfl) HA_2 (y_ldn Try.isAgg35 Try.sizeOf35 (by kernel_rfl) H) (fun x33 H => ?_)
      refine ls_d (d := some 34) (by kernel_rfl) (by kernel_rfl) HA_2 (d_call (by kernel_rfl) (by kernel_rfl) H) (fun x34 h_2 w_3 H HA_3 => ?_)
      refine ls_move (x := x34) (by kernel_rfl) (by kernel_rfl) ?_
      refine ls_and [(), (), (), (), (), (), (), (), (), (), (), (), (), (), ()] (fun K a w => ∃ (D_1 : Nat → Value) (x50 : Value), a = ⟨([x0, x1, x2, x3, undef, undef, (.bool false), x7, x1, x2, x10, x10, (D 0), (D 1), (D 2), (D 3), (D 4), (D 5), (D 6), (D 7), (D 8), (D 9), (D 10), (D 11), (D 12), (D 13), (D 14), (D 15), (D 16), (D 17), (D 18), (D 19), x32, x33, x34, x34, (D_1 0), (D_1 1), (D_1 2), (D_1 3), (D_1 4), (D_1 5), (D_1 6), (D_1 7), (D_1 8), (D_1 9), (D_1 10), (D_1 11), (D_1 12), (D_1 13)] ++ [x50, undef, undef, undef, undef, undef, undef, undef, undef, undef, undef, undef, undef, undef, undef, undef, undef, undef, undef, undef, undef, undef, undef, undef, undef, undef]).toArray, []⟩ ∧ At w0 w h_2 ∧ K x50) H (fun hb_4 H => ?_) (fun hb_4 H => ?_) ?_
      · refine ls_move (x := x1) (by rw [hb_4]; kernel_rfl) (by kernel_rfl) ?_
        refine ls_p (d := some 37) (by kernel_rfl) (by rw [hb_4]; kernel_rfl) (p_sGt (by kernel_rfl) (by kernel_rfl) H) (fun x37 H => ?_)
        refine ls_move (x := x37) (by rw [hb_4]; kernel_rfl) (by kernel_rfl) ?_
        refine ls_fr (b := ⟨([x0, x1, x2, x3, undef, undef, (.bool false), x7, x1, x2, x10, x10, (D 0), (D 1), (D 2), (D 3), (D 4), (D 5), (D 6), (D 7), (D 8), (D 9), (D 10), (D 11), (D 12), (D 13), (D 14), (D 15), (D 16), (D 17), (D 18), (D 19), x32, x33, x34, x34, x1, x37, x37, undef, undef, undef, undef, undef, undef, undef, undef, undef, undef, undef] ++ [undef, undef, undef, undef, undef, undef, undef, undef, undef, undef, undef, undef, undef, undef, undef, undef, undef, undef, undef, undef, undef, undef, undef, undef, undef, undef]).toArray, []⟩) (by kernel_rfl) ?_
        refine ls_or [(), (), ()] (fun K a w => ∃ (D_6 : Nat → Value) (x41 : Value), a = ⟨([x0, x1, x2, x3, undef, undef, (.bool false), x7, x1, x2, x10, x10, (D 0), (D 1), (D 2), (D 3), (D 4), (D 5), (D 6), (D 7), (D 8), (D 9), (D 10), (D 11), (D 12), (D 13), (D 14), (D 15), (D 16), (D 17), (D 18), (D 19), x32, x33, x34, x34, x1, x37, x37, (D_6 0), (D_6 1), x41, undef, undef, undef, undef, undef, undef, undef, undef] ++ [undef, undef, undef, undef, undef, undef, undef, undef, undef, undef, undef, undef, undef, undef, undef, undef, undef, undef, undef, undef, undef, undef, undef, undef, undef, undef]).toArray, []⟩ ∧ At w0 w h_2 ∧ K x41) H (fun hb_7 H => ?_) (fun hb_7 H => ?_) ?_
        · refine ls_move (x := x2) (by rw [hb_7]; kernel_rfl) (by kernel_rfl) ?_
          refine ls_p (d := some 40) (by kernel_rfl) (by rw [hb_7]; kernel_rfl) (p_sGt (by kernel_rfl) (by kernel_rfl) H) (fun x40 H => ?_)
          refine ls_pick_f (y := x40) (by rw [hb_4]; kernel_rfl) (by rw [hb_7]; kernel_rfl) (by kernel_rfl) ?_
          refine ls_nil ?_
          refine then_normal ?_
          exact ⟨(fun i => ([x2, x40]).getD i undef), x40, by kernel_rfl, HA_3, H⟩
        · refine ls_skip (d := some 39) (by kernel_rfl) (by rw [hb_7]; kernel_rfl) ?_
          refine ls_skip (d := some 40) (by kernel_rfl) (by rw [hb_7]; kernel_rfl) ?_
          refine ls_pick_t (x := (.bool true)) (by rw [hb_4]; kernel_rfl) (by rw [hb_7]; kernel_rfl) (by kernel_rfl) ?_
          refine ls_nil ?_
          refine then_normal ?_
          exact ⟨(fun i => ([undef, undef]).getD i undef), (.bool true), by kernel_rfl, HA_3, H⟩
        · rintro _ w_12 ⟨D_6, x41, rfl, HA_12, H⟩
          refine ls_move (x := x41) (by rw [hb_4]; kernel_rfl) (by kernel_rfl) ?_
          refine ls_or [(), (), ()] (fun K a w => ∃ (D_7 : Nat → Value) (x45 : Value), a = ⟨([x0, x1, x2, x3, undef, undef, (.bool false), x7, x1, x2, x10, x10, (D 0), (D 1), (D 2), (D 3), (D 4), (D 5), (D 6), (D 7), (D 8), (D 9), (D 10), (D 11), (D 12), (D 13), (D 14), (D 15), (D 16), (D 17), (D 18), (D 19), x32, x33, x34, x34, x1, x37, x37, (D_6 0), (D_6 1), x41, x41, (D_7 0), (D_7 1), x45, undef, undef, undef, undef] ++ [undef, undef, undef, undef, undef, undef, undef, undef, undef, undef, undef, undef, undef, undef, undef, undef, undef, undef, undef, undef, undef, undef, undef, undef, undef, undef]).toArray, []⟩ ∧ At w0 w h_2 ∧ K x45) H (fun hb_6 H => ?_) (fun hb_6 H => ?_) ?_
          · refine ls_move (x := x1) (by rw [hb_6]; kernel_rfl) (by kernel_rfl) ?_
            refine ls_p (d := some 44) (by kernel_rfl) (by rw [hb_6]; kernel_rfl) (p_sLt (by kernel_rfl) (by kernel_rfl) H) (fun x44 H => ?_)
            refine ls_pick_f (y := x44) (by rw [hb_4]; kernel_rfl) (by rw [hb_6]; kernel_rfl) (by kernel_rfl) ?_
            refine ls_nil ?_
            refine then_normal ?_
            exact ⟨(fun i => ([x1, x44]).getD i undef), x44, by kernel_rfl, HA_12, H⟩
          · refine ls_skip (d := some 43) (by kernel_rfl) (by rw [hb_6]; kernel_rfl) ?_
            refine ls_skip (d := some 44) (by kernel_rfl) (by rw [hb_6]; kernel_rfl) ?_
            refine ls_pick_t (x := (.bool true)) (by rw [hb_4]; kernel_rfl) (by rw [hb_6]; kernel_rfl) (by kernel_rfl) ?_
            refine ls_nil ?_
            refine then_normal ?_
            exact ⟨(fun i => ([undef, undef]).getD i undef), (.bool true), by kernel_rfl, HA_12, H⟩
          · rintro _ w_13 ⟨D_7, x45, rfl, HA_13, H⟩
            refine ls_move (x := x45) (by rw [hb_4]; kernel_rfl) (by kernel_rfl) ?_
            refine ls_or [(), (), ()] (fun K a w => ∃ (D_8 : Nat → Value) (x49 : Value), a = ⟨([x0, x1, x2, x3, undef, undef, (.bool false), x7, x1, x2, x10, x10, (D 0), (D 1), (D 2), (D 3), (D 4), (D 5), (D 6), (D 7), (D 8), (D 9), (D 10), (D 11), (D 12), (D 13), (D 14), (D 15), (D 16), (D 17), (D 18), (D 19), x32, x33, x34, x34, x1, x37, x37, (D_6 0), (D_6 1), x41, x41, (D_7 0), (D_7 1), x45, x45, (D_8 0), (D_8 1), x49] ++ [undef, undef, undef, undef, undef, undef, undef, undef, undef, undef, undef, undef, undef, undef, undef, undef, undef, undef, undef, undef, undef, undef, undef, undef, undef, undef]).toArray, []⟩ ∧ At w0 w h_2 ∧ K x49) H (fun hb_5 H => ?_) (fun hb_5 H => ?_) ?_
            · refine ls_move (x := x2) (by rw [hb_5]; kernel_rfl) (by kernel_rfl) ?_
              refine ls_p (d := some 48) (by kernel_rfl) (by rw [hb_5]; kernel_rfl) (p_sLt (by kernel_rfl) (by kernel_rfl) H) (fun x48 H => ?_)
              refine ls_pick_f (y := x48) (by rw [hb_4]; kernel_rfl) (by rw [hb_5]; kernel_rfl) (by kernel_rfl) ?_
              refine ls_nil ?_
              refine then_normal ?_
              exact ⟨(fun i => ([x2, x48]).getD i undef), x48, by kernel_rfl, HA_13, H⟩
            · refine ls_skip (d := some 47) (by kernel_rfl) (by rw [hb_5]; kernel_rfl) ?_
              refine ls_skip (d := some 48) (by kernel_rfl) (by rw [hb_5]; kernel_rfl) ?_
              refine ls_pick_t (x := (.bool true)) (by rw [hb_4]; kernel_rfl) (by rw [hb_5]; kernel_rfl) (by kernel_rfl) ?_
              refine ls_nil ?_
              refine then_normal ?_
              exact ⟨(fun i => ([undef, undef]).getD i undef), (.bool true), by kernel_rfl, HA_13, H⟩
            · rintro _ w_14 ⟨D_8, x49, rfl, HA_14, H⟩
              refine ls_pick_t (x := x49) (by kernel_rfl) (by rw [hb_4]; kernel_rfl) (by kernel_rfl) ?_
              refine ls_nil ?_
              refine then_normal ?_
              exact ⟨(fun i => ([x1, x37, x37, (D_6 0), (D_6 1), x41, x41, (D_7 0), (D_7 1), x45, x45, (D_8 0), (D_8 1), x49]).getD i undef), x49, by kernel_rfl, HA_14, H⟩
      · refine ls_skip (d := some 36) (by kernel_rfl) (by rw [hb_4]; kernel_rfl) ?_
        refine ls_skip (d := some 37) (by kernel_rfl) (by rw [hb_4]; kernel_rfl) ?_
        refine ls_skip (d := some 38) (by kernel_rfl) (by rw [hb_4]; kernel_rfl) ?_
        refine ls_fr (b := ⟨([x0, x1, x2, x3, undef, undef, (.bool false), x7, x1, x2, x10, x10, (D 0), (D 1), (D 2), (D 3), (D 4), (D 5), (D 6), (D 7), (D 8), (D 9), (D 10), (D 11), (D 12), (D 13), (D 14), (D 15), (D 16), (D 17), (D 18), (D 19), x32, x33, x34, x34, undef, undef, undef, undef, undef, undef, undef, undef, undef, undef, undef, undef, undef, undef] ++ [undef, undef, undef, undef, undef, undef, undef, undef, undef, undef, undef, undef, undef, undef, undef, undef, undef, undef, undef, undef, undef, undef, undef, undef, undef, undef]).toArray, []⟩) (by kernel_rfl) ?_
        refine ls_skip (d := some 39) (by kernel_rfl) (by kernel_rfl) ?_
        refine ls_skip (d := some 40) (by kernel_rfl) (by kernel_rfl) ?_
        refine ls_skip (d := some 41) (by kernel_rfl) (by rw [hb_4]; kernel_rfl) ?_
        refine ls_skip (d := some 42) (by kernel_rfl) (by rw [hb_4]; kernel_rfl) ?_
        refine ls_skip (d := some 43) (by kernel_rfl) (by kernel_rfl) ?_
        refine ls_skip (d := some 44) (by kernel_rfl) (by kernel_rfl) ?_
        refine ls_fr (b := ⟨([x0, x1, x2, x3, undef, undef, (.bool false), x7, x1, x2, x10, x10, (D 0), (D 1), (D 2), (D 3), (D 4), (D 5), (D 6), (D 7), (D 8), (D 9), (D 10), (D 11), (D 12), (D 13), (D 14), (D 15), (D 16), (D 17), (D 18), (D 19), x32, x33, x34, x34, undef, undef, undef, undef, undef, undef, undef, undef, undef, undef, undef, undef, undef, undef] ++ [undef, undef, undef, undef, undef, undef, undef, undef, undef, undef, undef, undef, undef, undef, undef, undef, undef, undef, undef, undef, undef, undef, undef, undef, undef, undef]).toArray, []⟩) (by kernel_rfl) ?_
        refine ls_skip (d := some 45) (by kernel_rfl) (by rw [hb_4]; kernel_rfl) ?_
        refine ls_skip (d := some 46) (by kernel_rfl) (by rw [hb_4]; kernel_rfl) ?_
        refine ls_skip (d := some 47) (by kernel_rfl) (by kernel_rfl) ?_
        refine ls_skip (d := some 48) (by kernel_rfl) (by kernel_rfl) ?_
        refine ls_skip (d := some 49) (by kernel_rfl) (by rw [hb_4]; kernel_rfl) ?_
        refine ls_pick_f (y := (.bool false)) (by kernel_rfl) (by rw [hb_4]; kernel_rfl) (by kernel_rfl) ?_
        refine ls_nil ?_
        refine then_normal ?_
        exact ⟨(fun i => ([undef, undef, undef, undef, undef, undef, undef, undef, undef, undef, undef, undef, undef, undef]).getD i undef), (.bool false), by kernel_rfl, HA_3, H⟩
      · rintro _ w_4 ⟨D_1, x50, rfl, HA_4, H⟩
        refine ls_move (x := x50) (by kernel_rfl) (by kernel_rfl) ?_
        refine ls_andh [(), (), (), (), ()] (fun K a w => ∃ (D_2 : Nat → Value) (x56 : Value) (h_3 : Heap), a = ⟨([x0, x1, x2, x3, undef, undef, (.bool false), x7, x1, x2, x10, x10, (D 0), (D 1), (D 2), (D 3), (D 4), (D 5), (D 6), (D 7), (D 8), (D 9), (D 10), (D 11), (D 12), (D 13), (D 14), (D 15), (D 16), (D 17), (D 18), (D 19), x32, x33, x34, x34, (D_1 0), (D_1 1), (D_1 2), (D_1 3), (D_1 4), (D_1 5), (D_1 6), (D_1 7), (D_1 8), (D_1 9), (D_1 10), (D_1 11), (D_1 12), (D_1 13)] ++ [x50, x50, (D_2 0), (D_2 1), (D_2 2), (D_2 3), x56, undef, undef, undef, undef, undef, undef, undef, undef, undef, undef, undef, undef, undef, undef, undef, undef, undef, undef, undef]).toArray, []⟩ ∧ At w0 w h_3 ∧ K x56 h_3) H (fun hb_3 H => ?_) (fun hb_3 H => ?_) ?_
        · refine ls_y (d := some 52) (by kernel_rfl) (by rw [hb_3]; kernel_rfl) HA_4 (y_ldn Try.isAgg35 Try.sizeOf35 (by kernel_rfl) H) (fun x52 H => ?_)
          refine ls_move (x := x1) (by rw [hb_3]; kernel_rfl) (by kernel_rfl) ?_
          refine ls_move (x := x2) (by rw [hb_3]; kernel_rfl) (by kernel_rfl) ?_
          refine ls_d (d := some 55) (by kernel_rfl) (by rw [hb_3]; kernel_rfl) HA_4 (d_call (by kernel_rfl) (by kernel_rfl) H) (fun x55 h_8 w_11 H HA_11 => ?_)
          refine ls_pick_t (x := x55) (by kernel_rfl) (by rw [hb_3]; kernel_rfl) (by kernel_rfl) ?_
          refine ls_nil ?_
          refine then_normal ?_
          exact ⟨(fun i => ([x52, x1, x2, x55]).getD i undef), x55, h_8, by kernel_rfl, HA_11, H⟩
        · refine ls_skip (d := some 52) (by kernel_rfl) (by rw [hb_3]; kernel_rfl) ?_
          refine ls_skip (d := some 53) (by kernel_rfl) (by rw [hb_3]; kernel_rfl) ?_
          refine ls_skip (d := some 54) (by kernel_rfl) (by rw [hb_3]; kernel_rfl) ?_
          refine ls_skip (d := some 55) (by kernel_rfl) (by rw [hb_3]; kernel_rfl) ?_
          refine ls_pick_f (y := (.bool false)) (by kernel_rfl) (by rw [hb_3]; kernel_rfl) (by kernel_rfl) ?_
          refine ls_nil ?_
          refine then_normal ?_
          exact ⟨(fun i => ([undef, undef, undef, undef]).getD i undef), (.bool false), h_2, by kernel_rfl, HA_4, H⟩
        · rintro _ w_5 ⟨D_2, x56, h_3, rfl, HA_5, H⟩
          refine ls_nil ?_
          refine then_normal ?_
          refine fr_eq (b := ⟨([x0, x1, x2, x3, undef, undef, (.bool false), x7, x1, x2, x10, x10, (D 0), (D 1), (D 2), (D 3), (D 4), (D 5), (D 6), (D 7), (D 8), (D 9), (D 10), (D 11), (D 12), (D 13), (D 14), (D 15), (D 16), (D 17), (D 18), (D 19), x32, x33, x34, x34, (D_1 0), (D_1 1), (D_1 2), (D_1 3), (D_1 4), (D_1 5), (D_1 6), (D_1 7), (D_1 8), (D_1 9), (D_1 10), (D_1 11), (D_1 12), (D_1 13)] ++ [x50, x50, (D_2 0), (D_2 1), (D_2 2), (D_2 3), x56, undef, undef, undef, undef, undef, undef, undef, undef, undef, undef, undef, undef, undef, undef, undef, undef, undef, undef, undef]).toArray, []⟩) (by kernel_rfl) ?_
          refine wp_if rfl H (fun H => ?_) (fun H => ?_)
          · refine wp_seq ?_
            refine lwp_list ?_
            refine ls_assign (x := (.bool false)) (by kernel_rfl) (by kernel_rfl) ?_
            refine ls_nil ?_
            refine then_normal ?_
            refine fr_eq (b := ⟨([x0, x1, x2, x3, undef, undef, (.bool false), x7, x1, x2, x10, x10, (D 0), (D 1), (D 2), (D 3), (D 4), (D 5), (D 6), (D 7), (D 8), (D 9), (D 10), (D 11), (D 12), (D 13), (D 14), (D 15), (D 16), (D 17), (D 18), (D 19), x32, x33, x34, x34, (D_1 0), (D_1 1), (D_1 2), (D_1 3), (D_1 4), (D_1 5), (D_1 6), (D_1 7), (D_1 8), (D_1 9), (D_1 10), (D_1 11), (D_1 12), (D_1 13)] ++ [x50, x50, (D_2 0), (D_2 1), (D_2 2), (D_2 3), x56, undef, undef, undef, undef, undef, undef, undef, undef, undef, undef, undef, undef, undef, undef, undef, undef, undef, undef, undef]).toArray, []⟩) (by kernel_rfl) ?_
            refine wp_ret ?_
            refine then_ret ?_
            exact end1 (Try.results7) (by kernel_rfl) (by kernel_rfl) HA_5 H _ (.inr rfl)
          · refine wp_skip ?_
            refine then_normal ?_
            refine fr_eq (b := ⟨([x0, x1, x2, x3, undef, undef, (.bool false), x7, x1, x2, x10, x10, (D 0), (D 1), (D 2), (D 3), (D 4), (D 5), (D 6), (D 7), (D 8), (D 9), (D 10), (D 11), (D 12), (D 13), (D 14), (D 15), (D 16), (D 17), (D 18), (D 19), x32, x33, x34, x34, (D_1 0), (D_1 1), (D_1 2), (D_1 3), (D_1 4), (D_1 5), (D_1 6), (D_1 7), (D_1 8), (D_1 9), (D_1 10), (D_1 11), (D_1 12), (D_1 13)] ++ [x50, x50, (D_2 0), (D_2 1), (D_2 2), (D_2 3), x56, undef, undef, undef, undef, undef, undef, undef, undef, undef, undef, undef, undef, undef, undef, undef, undef, undef, undef, undef]).toArray, []⟩) (by kernel_rfl) ?_
            refine wp_seq ?_
            refine lwp_list ?_
            refine ls_p (d := some 57) (by kernel_rfl) (by kernel_rfl) (p_off Try.underlying35 rfl (fun w => ⟨_, Try.sizeOf3 w⟩) rfl (by kernel_rfl) H) (fun x57 H => ?_)
            refine ls_y (d := some 58) (by kernel_rfl) (by kernel_rfl) HA_5 (y_ld Try.isAgg3 (by kernel_rfl) H) (fun x58 H => ?_)
            refine ls_p (d := some 59) (by kernel_rfl) (by kernel_rfl) (p_sLt (by kernel_rfl) (by kernel_rfl) H) (fun x59 H => ?_)
            refine ls_move (x := x59) (by kernel_rfl) (by kernel_rfl) ?_
            refine ls_or [(), (), (), ()] (fun K a w => ∃ (D_3 : Nat → Value) (x64 : Value), a = ⟨([x0, x1, x2, x3, undef, undef, (.bool false), x7, x1, x2, x10, x10, (D 0), (D 1), (D 2), (D 3), (D 4), (D 5), (D 6), (D 7), (D 8), (D 9), (D 10), (D 11), (D 12), (D 13), (D 14), (D 15), (D 16), (D 17), (D 18), (D 19), x32, x33, x34, x34, (D_1 0), (D_1 1), (D_1 2), (D_1 3), (D_1 4), (D_1 5), (D_1 6), (D_1 7), (D_1 8), (D_1 9), (D_1 10), (D_1 11), (D_1 12), (D_1 13)] ++ [x50, x50, (D_2 0), (D_2 1), (D_2 2), (D_2 3), x56, x57, x58, x59, x59, (D_3 0), (D_3 1), (D_3 2), x64, undef, undef, undef, undef, undef, undef, undef, undef, undef, undef, undef]).toArray, []⟩ ∧ At w0 w h_3 ∧ K x64) H (fun hb_2 H => ?_) (fun hb_2 H => ?_) ?_
            · refine ls_p (d := some 61) (by kernel_rfl) (by rw [hb_2]; kernel_rfl) (p_off Try.underlying35 rfl (fun w => ⟨_, Try.sizeOf3 w⟩) rfl (by kernel_rfl) H) (fun x61 H => ?_)
              refine ls_y (d := some 62) (by kernel_rfl) (by rw [hb_2]; kernel_rfl) HA_5 (y_ld Try.isAgg3 (by kernel_rfl) H) (fun x62 H => ?_)
              refine ls_fr (b := ⟨([x0, x1, x2, x3, undef, undef, (.bool false), x7, x1, x2, x10, x10, (D 0), (D 1), (D 2), (D 3), (D 4), (D 5), (D 6), (D 7), (D 8), (D 9), (D 10), (D 11), (D 12), (D 13), (D 14), (D 15), (D 16), (D 17), (D 18), (D 19), x32, x33, x34, x34, (D_1 0), (D_1 1), (D_1 2), (D_1 3), (D_1 4), (D_1 5), (D_1 6), (D_1 7), (D_1 8), (D_1 9), (D_1 10), (D_1 11), (D_1 12), (D_1 13)] ++ [x50, x50, (D_2 0), (D_2 1), (D_2 2), (D_2 3), x56, x57, x58, x59, x59, x61, x62, undef, undef, undef, undef, undef, undef, undef, undef, undef, undef, undef, undef, undef]).toArray, []⟩) (by kernel_rfl) ?_
              refine ls_p (d := some 63) (by kernel_rfl) (by rw [hb_2]; kernel_rfl) (p_sLt (by kernel_rfl) (by kernel_rfl) H) (fun x63 H => ?_)
              refine ls_pick_f (y := x63) (by kernel_rfl) (by rw [hb_2]; kernel_rfl) (by kernel_rfl) ?_
              refine ls_nil ?_
              refine then_normal ?_
              exact ⟨(fun i => ([x61, x62, x63]).getD i undef), x63, by kernel_rfl, HA_5, H⟩
            · refine ls_skip (d := some 61) (by kernel_rfl) (by rw [hb_2]; kernel_rfl) ?_
              refine ls_skip (d := some 62) (by kernel_rfl) (by rw [hb_2]; kernel_rfl) ?_
              refine ls_fr (b := ⟨([x0, x1, x2, x3, undef, undef, (.bool false), x7, x1, x2, x10, x10, (D 0), (D 1), (D 2), (D 3), (D 4), (D 5), (D 6), (D 7), (D 8), (D 9), (D 10), (D 11), (D 12), (D 13), (D 14), (D 15), (D 16), (D 17), (D 18), (D 19), x32, x33, x34, x34, (D_1 0), (D_1 1), (D_1 2), (D_1 3), (D_1 4), (D_1 5), (D_1 6), (D_1 7), (D_1 8), (D_1 9), (D_1 10), (D_1 11), (D_1 12), (D_1 13)] ++ [x50, x50, (D_2 0), (D_2 1), (D_2 2), (D_2 3), x56, x57, x58, x59, x59, undef, undef, undef, undef, undef, undef, undef, undef, undef, undef, undef, undef, undef, undef, undef]).toArray, []⟩) (by kernel_rfl) ?_
              refine ls_skip (d := some 63) (by kernel_rfl) (by rw [hb_2]; kernel_rfl) ?_
              refine ls_pick_t (x := (.bool true)) (by kernel_rfl) (by rw [hb_2]; kernel_rfl) (by kernel_rfl) ?_
              refine ls_nil ?_
              refine then_normal ?_
              exact ⟨(fun i => ([undef, undef, undef]).getD i undef), (.bool true), by kernel_rfl, HA_5, H⟩
            · rintro _ w_6 ⟨D_3, x64, rfl, HA_6, H⟩
              refine ls_move (x := x64) (by kernel_rfl) (by kernel_rfl) ?_
              refine ls_orh [(), (), (), (), (), (), ()] (fun K a w => ∃ (D_4 : Nat → Value) (x72 : Value) (h_4 : Heap), a = ⟨([x0, x1, x2, x3, undef, undef, (.bool false), x7, x1, x2, x10, x10, (D 0), (D 1), (D 2), (D 3), (D 4), (D 5), (D 6), (D 7), (D 8), (D 9), (D 10), (D 11), (D 12), (D 13), (D 14), (D 15), (D 16), (D 17), (D 18), (D 19), x32, x33, x34, x34, (D_1 0), (D_1 1), (D_1 2), (D_1 3), (D_1 4), (D_1 5), (D_1 6), (D_1 7), (D_1 8), (D_1 9), (D_1 10), (D_1 11), (D_1 12), (D_1 13)] ++ [x50, x50, (D_2 0), (D_2 1), (D_2 2), (D_2 3), x56, x57, x58, x59, x59, (D_3 0), (D_3 1), (D_3 2), x64, x64, (D_4 0), (D_4 1), (D_4 2), (D_4 3), (D_4 4), (D_4 5), x72, undef, undef, undef]).toArray, []⟩ ∧ At w0 w h_4 ∧ K x72 h_4) H (fun hb_1 H => ?_) (fun hb_1 H => ?_) ?_
              · refine ls_y (d := some 66) (by kernel_rfl) (by rw [hb_1]; kernel_rfl) HA_6 (y_ldn Try.isAgg35 Try.sizeOf35 (by kernel_rfl) H) (fun x66 H => ?_)
                refine ls_p (d := some 67) (by kernel_rfl) (by rw [hb_1]; kernel_rfl) (p_off Try.underlying35 rfl (fun w => ⟨_, Try.sizeOf3 w⟩) rfl (by kernel_rfl) H) (fun x67 H => ?_)
                refine ls_y (d := some 68) (by kernel_rfl) (by rw [hb_1]; kernel_rfl) HA_6 (y_ld Try.isAgg3 (by kernel_rfl) H) (fun x68 H => ?_)
                refine ls_p (d := some 69) (by kernel_rfl) (by rw [hb_1]; kernel_rfl) (p_off Try.underlying35 rfl (fun w => ⟨_, Try.sizeOf3 w⟩) rfl (by kernel_rfl) H) (fun x69 H => ?_)
                refine ls_y (d := some 70) (by kernel_rfl) (by rw [hb_1]; kernel_rfl) HA_6 (y_ld Try.isAgg3 (by kernel_rfl) H) (fun x70 H => ?_)
                refine ls_fr (b := ⟨([x0, x1, x2, x3, undef, undef, (.bool false), x7, x1, x2, x10, x10, (D 0), (D 1), (D 2), (D 3), (D 4), (D 5), (D 6), (D 7), (D 8), (D 9), (D 10), (D 11), (D 12), (D 13), (D 14), (D 15), (D 16), (D 17), (D 18), (D 19), x32, x33, x34, x34, (D_1 0), (D_1 1), (D_1 2), (D_1 3), (D_1 4), (D_1 5), (D_1 6), (D_1 7), (D_1 8), (D_1 9), (D_1 10), (D_1 11), (D_1 12), (D_1 13)] ++ [x50, x50, (D_2 0), (D_2 1), (D_2 2), (D_2 3), x56, x57, x58, x59, x59, (D_3 0), (D_3 1), (D_3 2), x64, x64, x66, x67, x68, x69, x70, undef, undef, undef, undef, undef]).toArray, []⟩) (by kernel_rfl) ?_
                refine ls_d (d := some 71) (by kernel_rfl) (by rw [hb_1]; kernel_rfl) HA_6 (d_call (by kernel_rfl) (by kernel_rfl) H) (fun x71 h_7 w_10 H HA_10 => ?_)
                refine ls_pick_f (y := x71) (by kernel_rfl) (by rw [hb_1]; kernel_rfl) (by kernel_rfl) ?_
                refine ls_nil ?_
                refine then_normal ?_
                exact ⟨(fun i => ([x66, x67, x68, x69, x70, x71]).getD i undef), x71, h_7, by kernel_rfl, HA_10, H⟩
              · refine ls_skip (d := some 66) (by kernel_rfl) (by rw [hb_1]; kernel_rfl) ?_
                refine ls_skip (d := some 67) (by kernel_rfl) (by rw [hb_1]; kernel_rfl) ?_
                refine ls_skip (d := some 68) (by kernel_rfl) (by rw [hb_1]; kernel_rfl) ?_
                refine ls_skip (d := some 69) (by kernel_rfl) (by rw [hb_1]; kernel_rfl) ?_
                refine ls_skip (d := some 70) (by kernel_rfl) (by rw [hb_1]; kernel_rfl) ?_
                refine ls_fr (b := ⟨([x0, x1, x2, x3, undef, undef, (.bool false), x7, x1, x2, x10, x10, (D 0), (D 1), (D 2), (D 3), (D 4), (D 5), (D 6), (D 7), (D 8), (D 9), (D 10), (D 11), (D 12), (D 13), (D 14), (D 15), (D 16), (D 17), (D 18), (D 19), x32, x33, x34, x34, (D_1 0), (D_1 1), (D_1 2), (D_1 3), (D_1 4), (D_1 5), (D_1 6), (D_1 7), (D_1 8), (D_1 9), (D_1 10), (D_1 11), (D_1 12), (D_1 13)] ++ [x50, x50, (D_2 0), (D_2 1), (D_2 2), (D_2 3), x56, x57, x58, x59, x59, (D_3 0), (D_3 1), (D_3 2), x64, x64, undef, undef, undef, undef, undef, undef, undef, undef, undef, undef]).toArray, []⟩) (by kernel_rfl) ?_
                refine ls_skip (d := some 71) (by kernel_rfl) (by rw [hb_1]; kernel_rfl) ?_
                refine ls_pick_t (x := (.bool true)) (by kernel_rfl) (by rw [hb_1]; kernel_rfl) (by kernel_rfl) ?_
                refine ls_nil ?_
                refine then_normal ?_
                exact ⟨(fun i => ([undef, undef, undef, undef, undef, undef]).getD i undef), (.bool true), h_3, by kernel_rfl, HA_6, H⟩
              · rintro _ w_7 ⟨D_4, x72, h_4, rfl, HA_7, H⟩
                refine ls_move (x := x72) (by kernel_rfl) (by kernel_rfl) ?_
                refine ls_andh [(), ()] (fun K a w => ∃ (D_5 : Nat → Value) (x75 : Value) (h_5 : Heap), a = ⟨([x0, x1, x2, x3, undef, undef, (.bool false), x7, x1, x2, x10, x10, (D 0), (D 1), (D 2), (D 3), (D 4), (D 5), (D 6), (D 7), (D 8), (D 9), (D 10), (D 11), (D 12), (D 13), (D 14), (D 15), (D 16), (D 17), (D 18), (D 19), x32, x33, x34, x34, (D_1 0), (D_1 1), (D_1 2), (D_1 3), (D_1 4), (D_1 5), (D_1 6), (D_1 7), (D_1 8), (D_1 9), (D_1 10), (D_1 11), (D_1 12), (D_1 13)] ++ [x50, x50, (D_2 0), (D_2 1), (D_2 2), (D_2 3), x56, x57, x58, x59, x59, (D_3 0), (D_3 1), (D_3 2), x64, x64, (D_4 0), (D_4 1), (D_4 2), (D_4 3), (D_4 4), (D_4 5), x72, x72, (D_5 0), x75]).toArray, []⟩ ∧ At w0 w h_5 ∧ K x75 h_5) H (fun hb H => ?_) (fun hb H => ?_) ?_
                · refine ls_d (d := some 74) (by kernel_rfl) (by rw [hb]; kernel_rfl) HA_7 (d_call (by kernel_rfl) (by kernel_rfl) H) (fun x74 h_6 w_9 H HA_9 => ?_)
                  refine ls_pick_t (x := x74) (by kernel_rfl) (by rw [hb]; kernel_rfl) (by kernel_rfl) ?_
                  refine ls_nil ?_
                  refine then_normal ?_
                  exact ⟨(fun i => ([x74]).getD i undef), x74, h_6, by kernel_rfl, HA_9, H⟩
                · refine ls_skip (d := some 74) (by kernel_rfl) (by rw [hb]; kernel_rfl) ?_
                  refine ls_pick_f (y := (.bool false)) (by kernel_rfl) (by rw [hb]; kernel_rfl) (by kernel_rfl) ?_
                  refine ls_nil ?_
                  refine then_normal ?_
                  exact ⟨(fun i => ([undef]).getD i undef), (.bool false), h_4, by kernel_rfl, HA_7, H⟩
                · rintro _ w_8 ⟨D_5, x75, h_5, rfl, HA_8, H⟩
                  refine ls_assign (x := x75) (by kernel_rfl) (by kernel_rfl) ?_
                  refine ls_nil ?_
                  refine then_normal ?_
                  refine fr_eq (b := ⟨([x0, x1, x2, x3, undef, undef, x75, x7, x1, x2, x10, x10, (D 0), (D 1), (D 2), (D 3), (D 4), (D 5), (D 6), (D 7), (D 8), (D 9), (D 10), (D 11), (D 12), (D 13), (D 14), (D 15), (D 16), (D 17), (D 18), (D 19), x32, x33, x34, x34, (D_1 0), (D_1 1), (D_1 2), (D_1 3), (D_1 4), (D_1 5), (D_1 6), (D_1 7), (D_1 8), (D_1 9), (D_1 10), (D_1 11), (D_1 12), (D_1 13)] ++ [x50, x50, (D_2 0), (D_2 1), (D_2 2), (D_2 3), x56, x57, x58, x59, x59, (D_3 0), (D_3 1), (D_3 2), x64, x64, (D_4 0), (D_4 1), (D_4 2), (D_4 3), (D_4 4), (D_4 5), x72, x72, (D_5 0), x75]).toArray, []⟩) (by kernel_rfl) ?_
                  refine wp_ret ?_
                  exact end1 (Try.results7) (by kernel_rfl) (by kernel_rfl) HA_8 H _ (.inr rfl)

end Go.Proofs.Ytecoejjpdogklaa
