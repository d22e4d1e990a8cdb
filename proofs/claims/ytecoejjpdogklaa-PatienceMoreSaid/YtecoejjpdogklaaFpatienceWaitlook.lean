/- The shallow reading of one function, and that the function does it. Written by a program. -/
import Derived.Test.YtecoejjpdogklaaFnC
set_option linter.unusedVariables false
namespace Go.Proofs.Ytecoejjpdogklaa
open Go Go.HW

def patience_Wait_look_S (x0 : Value) (h : Heap) (R : Value → Heap → Prop) : Prop :=
  sNil x0 fun x4 =>
  sOff x4 1 fun x5 =>
  sLd h x5 fun x6 =>
  sGt x6 (.int .i64 0) fun x7 =>
  sAnd x7 (fun k_5 =>
  sNil x0 fun x10 =>
  sOff x10 4 fun x11 =>
  sLd h x11 fun x12 =>
  sNil x0 fun x14 =>
  sOff x14 1 fun x15 =>
  sLd h x15 fun x16 =>
  sGe x12 x16 fun x17 =>
  k_5 x17) fun x18 =>
  sNil x0 fun x39 =>
  sOff x39 2 fun x40 =>
  sLd h x40 fun x41 =>
  sEq x41 (.int .i64 0) fun x42 =>
  sOr x42 (fun k_4 =>
  sNil x0 fun x45 =>
  sOff x45 3 fun x46 =>
  sLd h x46 fun x47 =>
  sNil x0 fun x49 =>
  sOff x49 2 fun x50 =>
  sLd h x50 fun x51 =>
  sGe x47 x51 fun x52 =>
  k_4 x52) fun x53 =>
  sIf x53 (sNil x0 fun x55 =>
  sOff x55 5 fun x56 =>
  sSt h x56 (.bool true) fun h => 
  R unit h) (sNil x0 fun x59 =>
  sOff x59 0 fun x60 =>
  sLd h x60 fun x61 =>
  sGt x61 (.int .i64 0) fun x62 =>
  sIf x62 (sNil x0 fun x65 =>
  sOff x65 3 fun x66 =>
  sLd h x66 fun x67 =>
  sNil x0 fun x69 =>
  sOff x69 0 fun x70 =>
  sLd h x70 fun x71 =>
  sGe x67 x71 fun x72 =>
  sOr x72 (fun k =>
  sAnd x18 (fun k_1 =>
  sNil x0 fun x77 =>
  sOff x77 3 fun x78 =>
  sLd h x78 fun x79 =>
  sGt x79 (.int .i64 0) fun x80 =>
  k_1 x80) fun x81 =>
  k x81) fun x82 =>
  sNil x0 fun x83 =>
  sOff x83 5 fun x84 =>
  sSt h x84 x82 fun h_1 => 
  R unit h_1) (sNil x0 fun x21 =>
  sOff x21 3 fun x22 =>
  sLd h x22 fun x23 =>
  sGt x23 (.int .i64 0) fun x24 =>
  sOr x24 (fun k_3 =>
  k_3 x18) fun x27 =>
  sOr x27 (fun k_2 =>
  sNil x0 fun x30 =>
  sOff x30 1 fun x31 =>
  sLd h x31 fun x32 =>
  sEq x32 (.int .i64 0) fun x33 =>
  k_2 x33) fun x34 =>
  sNil x0 fun x35 =>
  sOff x35 5 fun x36 =>
  sSt h x36 x34 fun h_2 => 
  R unit h_2))
set_option maxRecDepth 100000 in
theorem patience_Wait_look_runs {x0 : Value} {h : Heap} {R : Value → Heap → Prop} (H : patience_Wait_look_S x0 h R) : patience_Wait_look_c x0 h R := by
  unfold patience_Wait_look_S at H
  refine runs_of (b := ⟨([x0, undef, undef, undef, undef, undef, undef, undef, undef, undef, undef, undef, undef, undef, undef, undef, undef, undef, undef, undef, undef, undef, undef, undef, undef, undef, undef, undef, undef, undef, undef, undef, undef, undef, undef, undef, undef, undef, undef, undef, undef, undef, undef, undef, undef, undef, undef, undef, undef, undef] ++ [undef, undef, undef, undef, undef, undef, undef, undef, undef, undef, undef, undef, undef, undef, undef, undef, undef, undef, undef, undef, undef, undef, undef, undef, undef, undef, undef, undef, undef, undef, undef, undef, undef, undef, undef]).toArray, []⟩) Try.call54 Try.func54 rfl (by kernel_rfl) (fun w0 HA => ?_)
  refine wp_seq ?_
  refine lwp_qt (by kernel_rfl) (by kernel_rfl) HA ?_
  refine lq_move (x := x0) (by kernel_rfl) (by kernel_rfl) ?_
  refine lq_p (d := some 4) (by kernel_rfl) (by kernel_rfl) (p_nil (by kernel_rfl) H) (fun x4 H => ?_)
  refine lq_p (d := some 5) (by kernel_rfl) (by kernel_rfl) (p_off Try.underlying82 rfl (fun w => ⟨_, Try.sizeOf3 w⟩) rfl (by kernel_rfl) H) (fun x5 H => ?_)
  refine lq_y (d := some 6) (by kernel_rfl) (by kernel_rfl) HA (y_ld Try.isAgg3 (by kernel_rfl) H) (fun x6 H => ?_)
  refine lq_p (d := some 7) (by kernel_rfl) (by kernel_rfl) (p_sGt (by kernel_rfl) (by kernel_rfl) H) (fun x7 H => ?_)
  refine lq_move (x := x7) (by kernel_rfl) (by kernel_rfl) ?_
  refine lq_fr (b := ⟨([x0, undef, undef, x0, x4, x5, x6, x7, x7, undef, undef, undef, undef, undef, undef, undef, undef, undef, undef, undef, undef, undef, undef, undef, undef, undef, undef, undef, undef, undef, undef, undef, undef, undef, undef, undef, undef, undef, undef, undef, undef, undef, undef, undef, undef, undef, undef, undef, undef, undef] ++ [undef, undef, undef, undef, undef, undef, undef, undef, undef, undef, undef, undef, undef, undef, undef, undef, undef, undef, undef, undef, undef, undef, undef, undef, undef, undef, undef, undef, undef, undef, undef, undef, undef, undef, undef]).toArray, []⟩) (by kernel_rfl) ?_
  refine lq_and [(), (), (), (), (), (), (), (), (), ()] (fun K a => ∃ (D : Nat → Value) (x18 : Value), a = ⟨([x0, undef, undef, x0, x4, x5, x6, x7, x7, (D 0), (D 1), (D 2), (D 3), (D 4), (D 5), (D 6), (D 7), (D 8), x18, undef, undef, undef, undef, undef, undef, undef, undef, undef, undef, undef, undef, undef, undef, undef, undef, undef, undef, undef, undef, undef, undef, undef, undef, undef, undef, undef, undef, undef, undef, undef] ++ [undef, undef, undef, undef, undef, undef, undef, undef, undef, undef, undef, undef, undef, undef, undef, undef, undef, undef, undef, undef, undef, undef, undef, undef, undef, undef, undef, undef, undef, undef, undef, undef, undef, undef, undef]).toArray, []⟩ ∧ K x18) H (fun hb_5 H => ?_) (fun hb_5 H => ?_) ?_
  · refine lq_move (x := x0) (by rw [hb_5]; kernel_rfl) (by kernel_rfl) ?_
    refine lq_p (d := some 10) (by kernel_rfl) (by rw [hb_5]; kernel_rfl) (p_nil (by kernel_rfl) H) (fun x10 H => ?_)
    refine lq_p (d := some 11) (by kernel_rfl) (by rw [hb_5]; kernel_rfl) (p_off Try.underlying82 rfl (fun w => ⟨_, Try.sizeOf3 w⟩) rfl (by kernel_rfl) H) (fun x11 H => ?_)
    refine lq_y (d := some 12) (by kernel_rfl) (by rw [hb_5]; kernel_rfl) HA (y_ld Try.isAgg3 (by kernel_rfl) H) (fun x12 H => ?_)
    refine lq_move (x := x0) (by rw [hb_5]; kernel_rfl) (by kernel_rfl) ?_
    refine lq_p (d := some 14) (by kernel_rfl) (by rw [hb_5]; kernel_rfl) (p_nil (by kernel_rfl) H) (fun x14 H => ?_)
    refine lq_fr (b := ⟨([x0, undef, undef, x0, x4, x5, x6, x7, x7, x0, x10, x11, x12, x0, x14, undef, undef, undef, undef, undef, undef, undef, undef, undef, undef, undef, undef, undef, undef, undef, undef, undef, undef, undef, undef, undef, undef, undef, undef, undef, undef, undef, undef, undef, undef, undef, undef, undef, undef, undef] ++ [undef, undef, undef, undef, undef, undef, undef, undef, undef, undef, undef, undef, undef, undef, undef, undef, undef, undef, undef, undef, undef, undef, undef, undef, undef, undef, undef, undef, undef, undef, undef, undef, undef, undef, undef]).toArray, []⟩) (by kernel_rfl) ?_
    refine lq_p (d := some 15) (by kernel_rfl) (by rw [hb_5]; kernel_rfl) (p_off Try.underlying82 rfl (fun w => ⟨_, Try.sizeOf3 w⟩) rfl (by kernel_rfl) H) (fun x15 H => ?_)
    refine lq_y (d := some 16) (by kernel_rfl) (by rw [hb_5]; kernel_rfl) HA (y_ld Try.isAgg3 (by kernel_rfl) H) (fun x16 H => ?_)
    refine lq_p (d := some 17) (by kernel_rfl) (by rw [hb_5]; kernel_rfl) (p_sGe (by kernel_rfl) (by kernel_rfl) H) (fun x17 H => ?_)
    refine lq_pick_t (x := x17) (by kernel_rfl) (by rw [hb_5]; kernel_rfl) (by kernel_rfl) ?_
    refine lq_nil ?_
    exact ⟨(fun i => ([x0, x10, x11, x12, x0, x14, x15, x16, x17]).getD i undef), x17, by kernel_rfl, H⟩
  · refine lq_skip (d := some 9) (by kernel_rfl) (by rw [hb_5]; kernel_rfl) ?_
    refine lq_skip (d := some 10) (by kernel_rfl) (by rw [hb_5]; kernel_rfl) ?_
    refine lq_skip (d := some 11) (by kernel_rfl) (by rw [hb_5]; kernel_rfl) ?_
    refine lq_skip (d := some 12) (by kernel_rfl) (by rw [hb_5]; kernel_rfl) ?_
    refine lq_skip (d := some 13) (by kernel_rfl) (by rw [hb_5]; kernel_rfl) ?_
    refine lq_skip (d := some 14) (by kernel_rfl) (by rw [hb_5]; kernel_rfl) ?_
    refine lq_fr (b := ⟨([x0, undef, undef, x0, x4, x5, x6, x7, x7, undef, undef, undef, undef, undef, undef, undef, undef, undef, undef, undef, undef, undef, undef, undef, undef, undef, undef, undef, undef, undef, undef, undef, undef, undef, undef, undef, undef, undef, undef, undef, undef, undef, undef, undef, undef, undef, undef, undef, undef, undef] ++ [undef, undef, undef, undef, undef, undef, undef, undef, undef, undef, undef, undef, undef, undef, undef, undef, undef, undef, undef, undef, undef, undef, undef, undef, undef, undef, undef, undef, undef, undef, undef, undef, undef, undef, undef]).toArray, []⟩) (by kernel_rfl) ?_
    refine lq_skip (d := some 15) (by kernel_rfl) (by rw [hb_5]; kernel_rfl) ?_
    refine lq_skip (d := some 16) (by kernel_rfl) (by rw [hb_5]; kernel_rfl) ?_
    refine lq_skip (d := some 17) (by kernel_rfl) (by rw [hb_5]; kernel_rfl) ?_
    refine lq_pick_f (y := (.bool false)) (by kernel_rfl) (by rw [hb_5]; kernel_rfl) (by kernel_rfl) ?_
    refine lq_nil ?_
    exact ⟨(fun i => ([undef, undef, undef, undef, undef, undef, undef, undef, undef]).getD i undef), (.bool false), by kernel_rfl, H⟩
  · rintro _ ⟨D, x18, rfl, H⟩
    refine lq_assign (x := x18) (by kernel_rfl) (by kernel_rfl) ?_
    refine lq_nil ?_
    intro w HA
    refine then_normal ?_
    refine fr_eq (b := ⟨([x0, undef, x18, x0, x4, x5, x6, x7, x7, (D 0), (D 1), (D 2), (D 3), (D 4), (D 5), (D 6), (D 7), (D 8), x18, undef, undef, undef, undef, undef, undef, undef, undef, undef, undef, undef, undef, undef, undef, undef, undef, undef, undef, undef, undef, undef, undef, undef, undef, undef, undef, undef, undef, undef, undef, undef] ++ [undef, undef, undef, undef, undef, undef, undef, undef, undef, undef, undef, undef, undef, undef, undef, undef, undef, undef, undef, undef, undef, undef, undef, undef, undef, undef, undef, undef, undef, undef, undef, undef, undef, undef, undef]).toArray, []⟩) (by kernel_rfl) ?_
    refine wp_block ?_
    refine wp_seq ?_
    refine lwp_qt (by kernel_rfl) (by kernel_rfl) HA ?_
    refine lq_move (x := x0) (by kernel_rfl) (by kernel_rfl) ?_
    refine lq_p (d := some 39) (by kernel_rfl) (by kernel_rfl) (p_nil (by kernel_rfl) H) (fun x39 H => ?_)
    refine lq_p (d := some 40) (by kernel_rfl) (by kernel_rfl) (p_off Try.underlying82 rfl (fun w => ⟨_, Try.sizeOf3 w⟩) rfl (by kernel_rfl) H) (fun x40 H => ?_)
    refine lq_y (d := some 41) (by kernel_rfl) (by kernel_rfl) HA (y_ld Try.isAgg3 (by kernel_rfl) H) (fun x41 H => ?_)
    refine lq_p (d := some 42) (by kernel_rfl) (by kernel_rfl) (p_sEq (by kernel_rfl) (by kernel_rfl) H) (fun x42 H => ?_)
    refine lq_move (x := x42) (by kernel_rfl) (by kernel_rfl) ?_
    refine lq_fr (b := ⟨([x0, undef, x18, x0, x4, x5, x6, x7, x7, (D 0), (D 1), (D 2), (D 3), (D 4), (D 5), (D 6), (D 7), (D 8), x18, undef, undef, undef, undef, undef, undef, undef, undef, undef, undef, undef, undef, undef, undef, undef, undef, undef, undef, undef, x0, x39, x40, x41, x42, x42, undef, undef, undef, undef, undef, undef] ++ [undef, undef, undef, undef, undef, undef, undef, undef, undef, undef, undef, undef, undef, undef, undef, undef, undef, undef, undef, undef, undef, undef, undef, undef, undef, undef, undef, undef, undef, undef, undef, undef, undef, undef, undef]).toArray, []⟩) (by kernel_rfl) ?_
    refine lq_or [(), (), (), (), (), (), (), (), (), ()] (fun K a => ∃ (D_1 : Nat → Value) (x53 : Value), a = ⟨([x0, undef, x18, x0, x4, x5, x6, x7, x7, (D 0), (D 1), (D 2), (D 3), (D 4), (D 5), (D 6), (D 7), (D 8), x18, undef, undef, undef, undef, undef, undef, undef, undef, undef, undef, undef, undef, undef, undef, undef, undef, undef, undef, undef, x0, x39, x40, x41, x42, x42, (D_1 0), (D_1 1), (D_1 2), (D_1 3), (D_1 4), (D_1 5)] ++ [(D_1 6), (D_1 7), (D_1 8), x53, undef, undef, undef, undef, undef, undef, undef, undef, undef, undef, undef, undef, undef, undef, undef, undef, undef, undef, undef, undef, undef, undef, undef, undef, undef, undef, undef, undef, undef, undef, undef]).toArray, []⟩ ∧ K x53) H (fun hb_4 H => ?_) (fun hb_4 H => ?_) ?_
    · refine lq_move (x := x0) (by rw [hb_4]; kernel_rfl) (by kernel_rfl) ?_
      refine lq_p (d := some 45) (by kernel_rfl) (by rw [hb_4]; kernel_rfl) (p_nil (by kernel_rfl) H) (fun x45 H => ?_)
      refine lq_p (d := some 46) (by kernel_rfl) (by rw [hb_4]; kernel_rfl) (p_off Try.underlying82 rfl (fun w => ⟨_, Try.sizeOf3 w⟩) rfl (by kernel_rfl) H) (fun x46 H => ?_)
      refine lq_y (d := some 47) (by kernel_rfl) (by rw [hb_4]; kernel_rfl) HA (y_ld Try.isAgg3 (by kernel_rfl) H) (fun x47 H => ?_)
      refine lq_move (x := x0) (by rw [hb_4]; kernel_rfl) (by kernel_rfl) ?_
      refine lq_p (d := some 49) (by kernel_rfl) (by rw [hb_4]; kernel_rfl) (p_nil (by kernel_rfl) H) (fun x49 H => ?_)
      refine lq_fr (b := ⟨([x0, undef, x18, x0, x4, x5, x6, x7, x7, (D 0), (D 1), (D 2), (D 3), (D 4), (D 5), (D 6), (D 7), (D 8), x18, undef, undef, undef, undef, undef, undef, undef, undef, undef, undef, undef, undef, undef, undef, undef, undef, undef, undef, undef, x0, x39, x40, x41, x42, x42, x0, x45, x46, x47, x0, x49] ++ [undef, undef, undef, undef, undef, undef, undef, undef, undef, undef, undef, undef, undef, undef, undef, undef, undef, undef, undef, undef, undef, undef, undef, undef, undef, undef, undef, undef, undef, undef, undef, undef, undef, undef, undef]).toArray, []⟩) (by kernel_rfl) ?_
      refine lq_p (d := some 50) (by kernel_rfl) (by rw [hb_4]; kernel_rfl) (p_off Try.underlying82 rfl (fun w => ⟨_, Try.sizeOf3 w⟩) rfl (by kernel_rfl) H) (fun x50 H => ?_)
      refine lq_y (d := some 51) (by kernel_rfl) (by rw [hb_4]; kernel_rfl) HA (y_ld Try.isAgg3 (by kernel_rfl) H) (fun x51 H => ?_)
      refine lq_p (d := some 52) (by kernel_rfl) (by rw [hb_4]; kernel_rfl) (p_sGe (by kernel_rfl) (by kernel_rfl) H) (fun x52 H => ?_)
      refine lq_pick_f (y := x52) (by kernel_rfl) (by rw [hb_4]; kernel_rfl) (by kernel_rfl) ?_
      refine lq_nil ?_
      exact ⟨(fun i => ([x0, x45, x46, x47, x0, x49, x50, x51, x52]).getD i undef), x52, by kernel_rfl, H⟩
    · refine lq_skip (d := some 44) (by kernel_rfl) (by rw [hb_4]; kernel_rfl) ?_
      refine lq_skip (d := some 45) (by kernel_rfl) (by rw [hb_4]; kernel_rfl) ?_
      refine lq_skip (d := some 46) (by kernel_rfl) (by rw [hb_4]; kernel_rfl) ?_
      refine lq_skip (d := some 47) (by kernel_rfl) (by rw [hb_4]; kernel_rfl) ?_
      refine lq_skip (d := some 48) (by kernel_rfl) (by rw [hb_4]; kernel_rfl) ?_
      refine lq_skip (d := some 49) (by kernel_rfl) (by rw [hb_4]; kernel_rfl) ?_
      refine lq_fr (b := ⟨([x0, undef, x18, x0, x4, x5, x6, x7, x7, (D 0), (D 1), (D 2), (D 3), (D 4), (D 5), (D 6), (D 7), (D 8), x18, undef, undef, undef, undef, undef, undef, undef, undef, undef, undef, undef, undef, undef, undef, undef, undef, undef, undef, undef, x0, x39, x40, x41, x42, x42, undef, undef, undef, undef, undef, undef] ++ [undef, undef, undef, undef, undef, undef, undef, undef, undef, undef, undef, undef, undef, undef, undef, undef, undef, undef, undef, undef, undef, undef, undef, undef, undef, undef, undef, undef, undef, undef, undef, undef, undef, undef, undef]).toArray, []⟩) (by kernel_rfl) ?_
      refine lq_skip (d := some 50) (by kernel_rfl) (by rw [hb_4]; kernel_rfl) ?_
      refine lq_skip (d := some 51) (by kernel_rfl) (by rw [hb_4]; kernel_rfl) ?_
      refine lq_skip (d := some 52) (by kernel_rfl) (by rw [hb_4]; kernel_rfl) ?_
      refine lq_pick_t (x := (.bool true)) (by kernel_rfl) (by rw [hb_4]; kernel_rfl) (by kernel_rfl) ?_
      refine lq_nil ?_
      exact ⟨(fun i => ([undef, undef, undef, undef, undef, undef, undef, undef, undef]).getD i undef), (.bool true), by kernel_rfl, H⟩
    · rintro _ ⟨D_1, x53, rfl, H⟩
      refine lq_assign (x := x53) (by kernel_rfl) (by kernel_rfl) ?_
      refine lq_nil ?_
      intro w_1 HA_1
      refine then_normal ?_
      refine fr_eq (b := ⟨([x0, undef, x18, x0, x4, x5, x6, x7, x7, (D 0), (D 1), (D 2), (D 3), (D 4), (D 5), (D 6), (D 7), (D 8), x18, undef, undef, undef, undef, undef, undef, undef, undef, undef, undef, undef, undef, undef, undef, undef, undef, undef, undef, x53, x0, x39, x40, x41, x42, x42, (D_1 0), (D_1 1), (D_1 2), (D_1 3), (D_1 4), (D_1 5)] ++ [(D_1 6), (D_1 7), (D_1 8), x53, undef, undef, undef, undef, undef, undef, undef, undef, undef, undef, undef, undef, undef, undef, undef, undef, undef, undef, undef, undef, undef, undef, undef, undef, undef, undef, undef, undef, undef, undef, undef]).toArray, []⟩) (by kernel_rfl) ?_
      refine wp_if rfl H (fun H => ?_) (fun H => ?_)
      · refine lwp_list ?_
        refine ls_move (x := x0) (by kernel_rfl) (by kernel_rfl) ?_
        refine ls_p (d := some 55) (by kernel_rfl) (by kernel_rfl) (p_nil (by kernel_rfl) H) (fun x55 H => ?_)
        refine ls_p (d := some 56) (by kernel_rfl) (by kernel_rfl) (p_off Try.underlying82 rfl (fun w => ⟨_, Try.sizeOf4 w⟩) rfl (by kernel_rfl) H) (fun x56 H => ?_)
        refine ls_d (d := none) (by kernel_rfl) (by kernel_rfl) HA_1 (d_st Try.sizeOf4 (by kernel_rfl) (by kernel_rfl) H) (fun _ h w_2 H HA_2 => ?_)
        refine ls_nil ?_
        refine block_normal ?_
        exact end0 (Try.results54) (by kernel_rfl) HA_2 H _ (.inl rfl)
      · refine wp_seq ?_
        refine lwp_list ?_
        refine ls_move (x := x0) (by kernel_rfl) (by kernel_rfl) ?_
        refine ls_p (d := some 59) (by kernel_rfl) (by kernel_rfl) (p_nil (by kernel_rfl) H) (fun x59 H => ?_)
        refine ls_p (d := some 60) (by kernel_rfl) (by kernel_rfl) (p_off Try.underlying82 rfl (fun w => ⟨_, Try.sizeOf3 w⟩) rfl (by kernel_rfl) H) (fun x60 H => ?_)
        refine ls_y (d := some 61) (by kernel_rfl) (by kernel_rfl) HA_1 (y_ld Try.isAgg3 (by kernel_rfl) H) (fun x61 H => ?_)
        refine ls_p (d := some 62) (by kernel_rfl) (by kernel_rfl) (p_sGt (by kernel_rfl) (by kernel_rfl) H) (fun x62 H => ?_)
        refine ls_assign (x := x62) (by kernel_rfl) (by kernel_rfl) ?_
        refine ls_nil ?_
        refine then_normal ?_
        refine fr_eq (b := ⟨([x0, undef, x18, x0, x4, x5, x6, x7, x7, (D 0), (D 1), (D 2), (D 3), (D 4), (D 5), (D 6), (D 7), (D 8), x18, undef, undef, undef, undef, undef, undef, undef, undef, undef, undef, undef, undef, undef, undef, undef, undef, undef, undef, x53, x0, x39, x40, x41, x42, x42, (D_1 0), (D_1 1), (D_1 2), (D_1 3), (D_1 4), (D_1 5)] ++ [(D_1 6), (D_1 7), (D_1 8), x53, undef, undef, undef, x62, x0, x59, x60, x61, x62, undef, undef, undef, undef, undef, undef, undef, undef, undef, undef, undef, undef, undef, undef, undef, undef, undef, undef, undef, undef, undef, undef]).toArray, []⟩) (by kernel_rfl) ?_
        refine wp_if rfl H (fun H => ?_) (fun H => ?_)
        · refine lwp_mx (Nat.testBit 4194304) (Nat.testBit 0) (Nat.testBit 4128495) [0, 0, 2, 6, 14, 0, 32, 96, 224, 510, 1022, 2046, 4094, 8190, 16382, 32766, 65534, 131070, 262142, 524286, 1048575, 2097151, 4194303] (fun h' => h' = h) [0, 1, 2, 3, 4, 5, 6, 7, 8, 9, 10, 11, 12, 13, 14, 15, 16, 17, 18, 19, 20, 21, 22] (by kernel_rfl) (by kernel_rfl) (by kernel_rfl) HA_1 rfl ?_
          intro w_3 HA_3
          refine lm_al (x := x0) (d := some 63) (by kernel_rfl) rfl (by kernel_rfl) (by kernel_rfl) (al_move (by kernel_rfl)) ?_
          refine lm_al (x := x0) (d := some 64) (by kernel_rfl) rfl (by kernel_rfl) (by kernel_rfl) (al_move (by kernel_rfl)) ?_
          refine lm_p (d := some 65) (by kernel_rfl) rfl (by kernel_rfl) (by kernel_rfl) (p_nil (by kernel_rfl) H) (fun x65 H => ?_)
          refine lm_p (d := some 66) (by kernel_rfl) rfl (by kernel_rfl) (by kernel_rfl) (p_off Try.underlying82 rfl (fun w => ⟨_, Try.sizeOf3 w⟩) rfl (by kernel_rfl) H) (fun x66 H => ?_)
          refine lm_f (d := some 67) (by kernel_rfl) rfl (by kernel_rfl) (by kernel_rfl) (by kernel_rfl) (of_eq (y_ld Try.isAgg3 (by kernel_rfl) H)) (fun x67 H => ?_)
          refine lm_al (x := x0) (d := some 68) (by kernel_rfl) rfl (by kernel_rfl) (by kernel_rfl) (al_move (by kernel_rfl)) ?_
          refine lm_fr (b := ⟨([x0, undef, x18, x0, x4, x5, x6, x7, x7, (D 0), (D 1), (D 2), (D 3), (D 4), (D 5), (D 6), (D 7), (D 8), x18, undef, undef, undef, undef, undef, undef, undef, undef, undef, undef, undef, undef, undef, undef, undef, undef, undef, undef, x53, x0, x39, x40, x41, x42, x42, (D_1 0), (D_1 1), (D_1 2), (D_1 3), (D_1 4), (D_1 5)] ++ [(D_1 6), (D_1 7), (D_1 8), x53, undef, undef, undef, x62, x0, x59, x60, x61, x62, x0, x0, x65, x66, x67, x0, undef, undef, undef, undef, undef, undef, undef, undef, undef, undef, undef, undef, undef, undef, undef, undef]).toArray, []⟩) (by kernel_rfl) ?_
          refine lm_p (d := some 69) (by kernel_rfl) rfl (by kernel_rfl) (by kernel_rfl) (p_nil (by kernel_rfl) H) (fun x69 H => ?_)
          refine lm_p (d := some 70) (by kernel_rfl) rfl (by kernel_rfl) (by kernel_rfl) (p_off Try.underlying82 rfl (fun w => ⟨_, Try.sizeOf3 w⟩) rfl (by kernel_rfl) H) (fun x70 H => ?_)
          refine lm_f (d := some 71) (by kernel_rfl) rfl (by kernel_rfl) (by kernel_rfl) (by kernel_rfl) (of_eq (y_ld Try.isAgg3 (by kernel_rfl) H)) (fun x71 H => ?_)
          refine lm_p (d := some 72) (by kernel_rfl) rfl (by kernel_rfl) (by kernel_rfl) (p_sGe (by kernel_rfl) (by kernel_rfl) H) (fun x72 H => ?_)
          refine lm_al (x := x72) (d := some 73) (by kernel_rfl) rfl (by kernel_rfl) (by kernel_rfl) (al_move (by kernel_rfl)) ?_
          refine lm_or [(), (), (), (), (), (), (), (), ()] (fun K a w => ∃ (D_2 : Nat → Value) (x82 : Value), a = ⟨([x0, undef, x18, x0, x4, x5, x6, x7, x7, (D 0), (D 1), (D 2), (D 3), (D 4), (D 5), (D 6), (D 7), (D 8), x18, undef, undef, undef, undef, undef, undef, undef, undef, undef, undef, undef, undef, undef, undef, undef, undef, undef, undef, x53, x0, x39, x40, x41, x42, x42, (D_1 0), (D_1 1), (D_1 2), (D_1 3), (D_1 4), (D_1 5)] ++ [(D_1 6), (D_1 7), (D_1 8), x53, undef, undef, undef, x62, x0, x59, x60, x61, x62, x0, x0, x65, x66, x67, x0, x69, x70, x71, x72, x72, (D_2 0), (D_2 1), (D_2 2), (D_2 3), (D_2 4), (D_2 5), (D_2 6), (D_2 7), x82, undef, undef]).toArray, []⟩ ∧ At w0 w h ∧ K x82) H (fun hb H => ?_) (fun hb H => ?_) ?_
          · refine lm_al (x := x18) (d := some 74) (by kernel_rfl) rfl (by kernel_rfl) (by rw [hb]; kernel_rfl) (al_move (by kernel_rfl)) ?_
            refine lm_fr (b := ⟨([x0, undef, x18, x0, x4, x5, x6, x7, x7, (D 0), (D 1), (D 2), (D 3), (D 4), (D 5), (D 6), (D 7), (D 8), x18, undef, undef, undef, undef, undef, undef, undef, undef, undef, undef, undef, undef, undef, undef, undef, undef, undef, undef, x53, x0, x39, x40, x41, x42, x42, (D_1 0), (D_1 1), (D_1 2), (D_1 3), (D_1 4), (D_1 5)] ++ [(D_1 6), (D_1 7), (D_1 8), x53, undef, undef, undef, x62, x0, x59, x60, x61, x62, x0, x0, x65, x66, x67, x0, x69, x70, x71, x72, x72, x18, undef, undef, undef, undef, undef, undef, undef, undef, undef, undef]).toArray, []⟩) (by kernel_rfl) ?_
            refine lm_al (x := x18) (d := some 75) (by kernel_rfl) rfl (by kernel_rfl) (by rw [hb]; kernel_rfl) (al_move (by kernel_rfl)) ?_
            refine lm_and [(), (), (), (), (), ()] (fun K a w => ∃ (D_3 : Nat → Value) (x81 : Value), a = ⟨([x0, undef, x18, x0, x4, x5, x6, x7, x7, (D 0), (D 1), (D 2), (D 3), (D 4), (D 5), (D 6), (D 7), (D 8), x18, undef, undef, undef, undef, undef, undef, undef, undef, undef, undef, undef, undef, undef, undef, undef, undef, undef, undef, x53, x0, x39, x40, x41, x42, x42, (D_1 0), (D_1 1), (D_1 2), (D_1 3), (D_1 4), (D_1 5)] ++ [(D_1 6), (D_1 7), (D_1 8), x53, undef, undef, undef, x62, x0, x59, x60, x61, x62, x0, x0, x65, x66, x67, x0, x69, x70, x71, x72, x72, x18, x18, (D_3 0), (D_3 1), (D_3 2), (D_3 3), (D_3 4), x81, undef, undef, undef]).toArray, []⟩ ∧ At w0 w h ∧ K x81) H (fun hb_1 H => ?_) (fun hb_1 H => ?_) ?_
            · refine lm_al (x := x0) (d := some 76) (by kernel_rfl) rfl (by kernel_rfl) (by rw [hb_1]; kernel_rfl) (al_move (by kernel_rfl)) ?_
              refine lm_p (d := some 77) (by kernel_rfl) rfl (by kernel_rfl) (by rw [hb_1]; kernel_rfl) (p_nil (by kernel_rfl) H) (fun x77 H => ?_)
              refine lm_p (d := some 78) (by kernel_rfl) rfl (by kernel_rfl) (by rw [hb_1]; kernel_rfl) (p_off Try.underlying82 rfl (fun w => ⟨_, Try.sizeOf3 w⟩) rfl (by kernel_rfl) H) (fun x78 H => ?_)
              refine lm_f (d := some 79) (by kernel_rfl) rfl (by kernel_rfl) (by kernel_rfl) (by rw [hb_1]; kernel_rfl) (of_eq (y_ld Try.isAgg3 (by kernel_rfl) H)) (fun x79 H => ?_)
              refine lm_p (d := some 80) (by kernel_rfl) rfl (by kernel_rfl) (by rw [hb_1]; kernel_rfl) (p_sGt (by kernel_rfl) (by kernel_rfl) H) (fun x80 H => ?_)
              refine lm_fr (b := ⟨([x0, undef, x18, x0, x4, x5, x6, x7, x7, (D 0), (D 1), (D 2), (D 3), (D 4), (D 5), (D 6), (D 7), (D 8), x18, undef, undef, undef, undef, undef, undef, undef, undef, undef, undef, undef, undef, undef, undef, undef, undef, undef, undef, x53, x0, x39, x40, x41, x42, x42, (D_1 0), (D_1 1), (D_1 2), (D_1 3), (D_1 4), (D_1 5)] ++ [(D_1 6), (D_1 7), (D_1 8), x53, undef, undef, undef, x62, x0, x59, x60, x61, x62, x0, x0, x65, x66, x67, x0, x69, x70, x71, x72, x72, x18, x18, x0, x77, x78, x79, x80, undef, undef, undef, undef]).toArray, []⟩) (by kernel_rfl) ?_
              refine lm_al (x := x80) (d := some 81) (by kernel_rfl) rfl (by kernel_rfl) (by rw [hb]; kernel_rfl) (al_pick_t (by rw [hb_1]; kernel_rfl) (by kernel_rfl)) ?_
              refine lm_nil ?_
              exact ⟨(fun i => ([x0, x77, x78, x79, x80]).getD i undef), x80, by kernel_rfl, HA_3, H⟩
            · refine lm_skip (d := some 76) (by kernel_rfl) rfl (by rw [hb_1]; kernel_rfl) ?_
              refine lm_skip (d := some 77) (by kernel_rfl) rfl (by rw [hb_1]; kernel_rfl) ?_
              refine lm_skip (d := some 78) (by kernel_rfl) rfl (by rw [hb_1]; kernel_rfl) ?_
              refine lm_skip (d := some 79) (by kernel_rfl) rfl (by rw [hb_1]; kernel_rfl) ?_
              refine lm_skip (d := some 80) (by kernel_rfl) rfl (by rw [hb_1]; kernel_rfl) ?_
              refine lm_fr (b := ⟨([x0, undef, x18, x0, x4, x5, x6, x7, x7, (D 0), (D 1), (D 2), (D 3), (D 4), (D 5), (D 6), (D 7), (D 8), x18, undef, undef, undef, undef, undef, undef, undef, undef, undef, undef, undef, undef, undef, undef, undef, undef, undef, undef, x53, x0, x39, x40, x41, x42, x42, (D_1 0), (D_1 1), (D_1 2), (D_1 3), (D_1 4), (D_1 5)] ++ [(D_1 6), (D_1 7), (D_1 8), x53, undef, undef, undef, x62, x0, x59, x60, x61, x62, x0, x0, x65, x66, x67, x0, x69, x70, x71, x72, x72, x18, x18, undef, undef, undef, undef, undef, undef, undef, undef, undef]).toArray, []⟩) (by kernel_rfl) ?_
              refine lm_al (x := (.bool false)) (d := some 81) (by kernel_rfl) rfl (by kernel_rfl) (by rw [hb]; kernel_rfl) (al_pick_f (by rw [hb_1]; kernel_rfl) (by kernel_rfl)) ?_
              refine lm_nil ?_
              exact ⟨(fun i => ([undef, undef, undef, undef, undef]).getD i undef), (.bool false), by kernel_rfl, HA_3, H⟩
            · rintro _ w_6 ⟨D_3, x81, rfl, HA_6, H⟩
              refine lm_al (x := x81) (d := some 82) (by kernel_rfl) rfl (by kernel_rfl) (by kernel_rfl) (al_pick_f (by rw [hb]; kernel_rfl) (by kernel_rfl)) ?_
              refine lm_nil ?_
              exact ⟨(fun i => ([x18, x18, (D_3 0), (D_3 1), (D_3 2), (D_3 3), (D_3 4), x81]).getD i undef), x81, by kernel_rfl, HA_6, H⟩
          · refine lm_skip (d := some 74) (by kernel_rfl) rfl (by rw [hb]; kernel_rfl) ?_
            refine lm_fr (b := ⟨([x0, undef, x18, x0, x4, x5, x6, x7, x7, (D 0), (D 1), (D 2), (D 3), (D 4), (D 5), (D 6), (D 7), (D 8), x18, undef, undef, undef, undef, undef, undef, undef, undef, undef, undef, undef, undef, undef, undef, undef, undef, undef, undef, x53, x0, x39, x40, x41, x42, x42, (D_1 0), (D_1 1), (D_1 2), (D_1 3), (D_1 4), (D_1 5)] ++ [(D_1 6), (D_1 7), (D_1 8), x53, undef, undef, undef, x62, x0, x59, x60, x61, x62, x0, x0, x65, x66, x67, x0, x69, x70, x71, x72, x72, undef, undef, undef, undef, undef, undef, undef, undef, undef, undef, undef]).toArray, []⟩) (by kernel_rfl) ?_
            refine lm_skip (d := some 75) (by kernel_rfl) rfl (by rw [hb]; kernel_rfl) ?_
            refine lm_skip (d := some 76) (by kernel_rfl) rfl (by kernel_rfl) ?_
            refine lm_skip (d := some 77) (by kernel_rfl) rfl (by kernel_rfl) ?_
            refine lm_skip (d := some 78) (by kernel_rfl) rfl (by kernel_rfl) ?_
            refine lm_skip (d := some 79) (by kernel_rfl) rfl (by kernel_rfl) ?_
            refine lm_skip (d := some 80) (by kernel_rfl) rfl (by kernel_rfl) ?_
            refine lm_fr (b := ⟨([x0, undef, x18, x0, x4, x5, x6, x7, x7, (D 0), (D 1), (D 2), (D 3), (D 4), (D 5), (D 6), (D 7), (D 8), x18, undef, undef, undef, undef, undef, undef, undef, undef, undef, undef, undef, undef, undef, undef, undef, undef, undef, undef, x53, x0, x39, x40, x41, x42, x42, (D_1 0), (D_1 1), (D_1 2), (D_1 3), (D_1 4), (D_1 5)] ++ [(D_1 6), (D_1 7), (D_1 8), x53, undef, undef, undef, x62, x0, x59, x60, x61, x62, x0, x0, x65, x66, x67, x0, x69, x70, x71, x72, x72, undef, undef, undef, undef, undef, undef, undef, undef, undef, undef, undef]).toArray, []⟩) (by kernel_rfl) ?_
            refine lm_skip (d := some 81) (by kernel_rfl) rfl (by rw [hb]; kernel_rfl) ?_
            refine lm_al (x := (.bool true)) (d := some 82) (by kernel_rfl) rfl (by kernel_rfl) (by kernel_rfl) (al_pick_t (by rw [hb]; kernel_rfl) (by kernel_rfl)) ?_
            refine lm_nil ?_
            exact ⟨(fun i => ([undef, undef, undef, undef, undef, undef, undef, undef]).getD i undef), (.bool true), by kernel_rfl, HA_3, H⟩
          · rintro _ w_4 ⟨D_2, x82, rfl, HA_4, H⟩
            refine lm_p (d := some 83) (by kernel_rfl) rfl (by kernel_rfl) (by kernel_rfl) (p_nil (by kernel_rfl) H) (fun x83 H => ?_)
            refine lm_p (d := some 84) (by kernel_rfl) rfl (by kernel_rfl) (by kernel_rfl) (p_off Try.underlying82 rfl (fun w => ⟨_, Try.sizeOf4 w⟩) rfl (by kernel_rfl) H) (fun x84 H => ?_)
            refine lm_d (d := none) (by kernel_rfl) rfl (by kernel_rfl) (by kernel_rfl) (by kernel_rfl) HA_4 (d_st Try.sizeOf4 (by kernel_rfl) (by kernel_rfl) H) (fun _ h_1 w_5 H HA_5 => ?_)
            refine lm_nil ?_
            refine block_normal ?_
            exact end0 (Try.results54) (by kernel_rfl) HA_5 H _ (.inl rfl)
        · refine lwp_list ?_
          refine ls_move (x := x0) (by kernel_rfl) (by kernel_rfl) ?_
          refine ls_move (x := x0) (by kernel_rfl) (by kernel_rfl) ?_
          refine ls_p (d := some 21) (by kernel_rfl) (by kernel_rfl) (p_nil (by kernel_rfl) H) (fun x21 H => ?_)
          refine ls_p (d := some 22) (by kernel_rfl) (by kernel_rfl) (p_off Try.underlying82 rfl (fun w => ⟨_, Try.sizeOf3 w⟩) rfl (by kernel_rfl) H) (fun x22 H => ?_)
          refine ls_y (d := some 23) (by kernel_rfl) (by kernel_rfl) HA_1 (y_ld Try.isAgg3 (by kernel_rfl) H) (fun x23 H => ?_)
          refine ls_p (d := some 24) (by kernel_rfl) (by kernel_rfl) (p_sGt (by kernel_rfl) (by kernel_rfl) H) (fun x24 H => ?_)
          refine ls_fr (b := ⟨([x0, undef, x18, x0, x4, x5, x6, x7, x7, (D 0), (D 1), (D 2), (D 3), (D 4), (D 5), (D 6), (D 7), (D 8), x18, x0, x0, x21, x22, x23, x24, undef, undef, undef, undef, undef, undef, undef, undef, undef, undef, undef, undef, x53, x0, x39, x40, x41, x42, x42, (D_1 0), (D_1 1), (D_1 2), (D_1 3), (D_1 4), (D_1 5)] ++ [(D_1 6), (D_1 7), (D_1 8), x53, undef, undef, undef, x62, x0, x59, x60, x61, x62, undef, undef, undef, undef, undef, undef, undef, undef, undef, undef, undef, undef, undef, undef, undef, undef, undef, undef, undef, undef, undef, undef]).toArray, []⟩) (by kernel_rfl) ?_
          refine ls_move (x := x24) (by kernel_rfl) (by kernel_rfl) ?_
          refine ls_or [(), ()] (fun K a w => ∃ (D_4 : Nat → Value) (x27 : Value), a = ⟨([x0, undef, x18, x0, x4, x5, x6, x7, x7, (D 0), (D 1), (D 2), (D 3), (D 4), (D 5), (D 6), (D 7), (D 8), x18, x0, x0, x21, x22, x23, x24, x24, (D_4 0), x27, undef, undef, undef, undef, undef, undef, undef, undef, undef, x53, x0, x39, x40, x41, x42, x42, (D_1 0), (D_1 1), (D_1 2), (D_1 3), (D_1 4), (D_1 5)] ++ [(D_1 6), (D_1 7), (D_1 8), x53, undef, undef, undef, x62, x0, x59, x60, x61, x62, undef, undef, undef, undef, undef, undef, undef, undef, undef, undef, undef, undef, undef, undef, undef, undef, undef, undef, undef, undef, undef, undef]).toArray, []⟩ ∧ At w0 w h ∧ K x27) H (fun hb_3 H => ?_) (fun hb_3 H => ?_) ?_
          · refine ls_move (x := x18) (by rw [hb_3]; kernel_rfl) (by kernel_rfl) ?_
            refine ls_pick_f (y := x18) (by kernel_rfl) (by rw [hb_3]; kernel_rfl) (by kernel_rfl) ?_
            refine ls_nil ?_
            refine then_normal ?_
            exact ⟨(fun i => ([x18]).getD i undef), x18, by kernel_rfl, HA_1, H⟩
          · refine ls_skip (d := some 26) (by kernel_rfl) (by rw [hb_3]; kernel_rfl) ?_
            refine ls_pick_t (x := (.bool true)) (by kernel_rfl) (by rw [hb_3]; kernel_rfl) (by kernel_rfl) ?_
            refine ls_nil ?_
            refine then_normal ?_
            exact ⟨(fun i => ([undef]).getD i undef), (.bool true), by kernel_rfl, HA_1, H⟩
          · rintro _ w_7 ⟨D_4, x27, rfl, HA_7, H⟩
            refine ls_move (x := x27) (by kernel_rfl) (by kernel_rfl) ?_
            refine ls_or [(), (), (), (), (), ()] (fun K a w => ∃ (D_5 : Nat → Value) (x34 : Value), a = ⟨([x0, undef, x18, x0, x4, x5, x6, x7, x7, (D 0), (D 1), (D 2), (D 3), (D 4), (D 5), (D 6), (D 7), (D 8), x18, x0, x0, x21, x22, x23, x24, x24, (D_4 0), x27, x27, (D_5 0), (D_5 1), (D_5 2), (D_5 3), (D_5 4), x34, undef, undef, x53, x0, x39, x40, x41, x42, x42, (D_1 0), (D_1 1), (D_1 2), (D_1 3), (D_1 4), (D_1 5)] ++ [(D_1 6), (D_1 7), (D_1 8), x53, undef, undef, undef, x62, x0, x59, x60, x61, x62, undef, undef, undef, undef, undef, undef, undef, undef, undef, undef, undef, undef, undef, undef, undef, undef, undef, undef, undef, undef, undef, undef]).toArray, []⟩ ∧ At w0 w h ∧ K x34) H (fun hb_2 H => ?_) (fun hb_2 H => ?_) ?_
            · refine ls_move (x := x0) (by rw [hb_2]; kernel_rfl) (by kernel_rfl) ?_
              refine ls_p (d := some 30) (by kernel_rfl) (by rw [hb_2]; kernel_rfl) (p_nil (by kernel_rfl) H) (fun x30 H => ?_)
              refine ls_p (d := some 31) (by kernel_rfl) (by rw [hb_2]; kernel_rfl) (p_off Try.underlying82 rfl (fun w => ⟨_, Try.sizeOf3 w⟩) rfl (by kernel_rfl) H) (fun x31 H => ?_)
              refine ls_y (d := some 32) (by kernel_rfl) (by rw [hb_2]; kernel_rfl) HA_7 (y_ld Try.isAgg3 (by kernel_rfl) H) (fun x32 H => ?_)
              refine ls_p (d := some 33) (by kernel_rfl) (by rw [hb_2]; kernel_rfl) (p_sEq (by kernel_rfl) (by kernel_rfl) H) (fun x33 H => ?_)
              refine ls_fr (b := ⟨([x0, undef, x18, x0, x4, x5, x6, x7, x7, (D 0), (D 1), (D 2), (D 3), (D 4), (D 5), (D 6), (D 7), (D 8), x18, x0, x0, x21, x22, x23, x24, x24, (D_4 0), x27, x27, x0, x30, x31, x32, x33, undef, undef, undef, x53, x0, x39, x40, x41, x42, x42, (D_1 0), (D_1 1), (D_1 2), (D_1 3), (D_1 4), (D_1 5)] ++ [(D_1 6), (D_1 7), (D_1 8), x53, undef, undef, undef, x62, x0, x59, x60, x61, x62, undef, undef, undef, undef, undef, undef, undef, undef, undef, undef, undef, undef, undef, undef, undef, undef, undef, undef, undef, undef, undef, undef]).toArray, []⟩) (by kernel_rfl) ?_
              refine ls_pick_f (y := x33) (by kernel_rfl) (by rw [hb_2]; kernel_rfl) (by kernel_rfl) ?_
              refine ls_nil ?_
              refine then_normal ?_
              exact ⟨(fun i => ([x0, x30, x31, x32, x33]).getD i undef), x33, by kernel_rfl, HA_7, H⟩
            · refine ls_skip (d := some 29) (by kernel_rfl) (by rw [hb_2]; kernel_rfl) ?_
              refine ls_skip (d := some 30) (by kernel_rfl) (by rw [hb_2]; kernel_rfl) ?_
              refine ls_skip (d := some 31) (by kernel_rfl) (by rw [hb_2]; kernel_rfl) ?_
              refine ls_skip (d := some 32) (by kernel_rfl) (by rw [hb_2]; kernel_rfl) ?_
              refine ls_skip (d := some 33) (by kernel_rfl) (by rw [hb_2]; kernel_rfl) ?_
              refine ls_fr (b := ⟨([x0, undef, x18, x0, x4, x5, x6, x7, x7, (D 0), (D 1), (D 2), (D 3), (D 4), (D 5), (D 6), (D 7), (D 8), x18, x0, x0, x21, x22, x23, x24, x24, (D_4 0), x27, x27, undef, undef, undef, undef, undef, undef, undef, undef, x53, x0, x39, x40, x41, x42, x42, (D_1 0), (D_1 1), (D_1 2), (D_1 3), (D_1 4), (D_1 5)] ++ [(D_1 6), (D_1 7), (D_1 8), x53, undef, undef, undef, x62, x0, x59, x60, x61, x62, undef, undef, undef, undef, undef, undef, undef, undef, undef, undef, undef, undef, undef, undef, undef, undef, undef, undef, undef, undef, undef, undef]).toArray, []⟩) (by kernel_rfl) ?_
              refine ls_pick_t (x := (.bool true)) (by kernel_rfl) (by rw [hb_2]; kernel_rfl) (by kernel_rfl) ?_
              refine ls_nil ?_
              refine then_normal ?_
              exact ⟨(fun i => ([undef, undef, undef, undef, undef]).getD i undef), (.bool true), by kernel_rfl, HA_7, H⟩
            · rintro _ w_8 ⟨D_5, x34, rfl, HA_8, H⟩
              refine ls_p (d := some 35) (by kernel_rfl) (by kernel_rfl) (p_nil (by kernel_rfl) H) (fun x35 H => ?_)
              refine ls_p (d := some 36) (by kernel_rfl) (by kernel_rfl) (p_off Try.underlying82 rfl (fun w => ⟨_, Try.sizeOf4 w⟩) rfl (by kernel_rfl) H) (fun x36 H => ?_)
              refine ls_d (d := none) (by kernel_rfl) (by kernel_rfl) HA_8 (d_st Try.sizeOf4 (by kernel_rfl) (by kernel_rfl) H) (fun _ h_2 w_9 H HA_9 => ?_)
              refine ls_nil ?_
              refine block_normal ?_
              exact end0 (Try.results54) (by kernel_rfl) HA_9 H _ (.inl rfl)

end Go.Proofs.Ytecoejjpdogklaa
