/- The shallow reading of one function, and that the function does it. Written by a program. -/
import Derived.Test.YtecoejjpdogklaaFnC
set_option linter.unusedVariables false
namespace Go.Proofs.Ytecoejjpdogklaa
open Go Go.HW

def fifo_Queue_Put_j2 (R : Value → Heap → Prop) (h_2 : Heap) : Prop :=
  R (.bool true) h_2
def fifo_Queue_Put_j1 (R : Value → Heap → Prop) (x0 x1 x5 : Value) (h_1 : Heap) : Prop :=
  sNil x0 fun x25 =>
  sOff x25 0 fun x26 =>
  sLd h_1 x26 fun x27 =>
  sLt x5 x27 fun x28 =>
  sIf x28 (sNil x0 fun x31 =>
  sOff x31 3 fun x32 =>
  sLd h_1 x32 fun x33 =>
  sBuild #[.int .i64 0, .bool false] [(0, 1, x1), (1, 1, (.bool false))] fun x35 =>
  sSlit h_1 #[.int .i64 0, .bool false] [(0, 2, x35)] 98 1 fun x36 h_3 => 
  sApp h_3 x33 x36 #[.int .i64 0, .bool false] 98 16 fun x37 h_4 => 
  sNil x0 fun x38 =>
  sOff x38 3 fun x39 =>
  sSt h_4 x39 x37 fun h_5 => 
  fifo_Queue_Put_j2 R h_5) (sNil x0 fun x43 =>
  sOff x43 1 fun x44 =>
  sLd h_1 x44 fun x45 =>
  sEq x1 x45 fun x46 =>
  sAndH x46 h_1 (fun k =>
  fifo_Queue_taken_c x0 h_1 fun x49 h_11 => 
  sNot x49 fun x50 =>
  k x50 h_11) fun x51 h_6 =>
  sIf x51 (sNil x0 fun x54 =>
  sOff x54 3 fun x55 =>
  sLd h_6 x55 fun x56 =>
  sBuild #[.int .i64 0, .bool false] [(0, 1, x1), (1, 1, (.bool true))] fun x58 =>
  sSlit h_6 #[.int .i64 0, .bool false] [(0, 2, x58)] 98 1 fun x59 h_7 => 
  sApp h_7 x56 x59 #[.int .i64 0, .bool false] 98 16 fun x60 h_8 => 
  sNil x0 fun x61 =>
  sOff x61 3 fun x62 =>
  sSt h_8 x62 x60 fun h_9 => 
  fifo_Queue_Put_j2 R h_9) (sNil x0 fun x16 =>
  sOff x16 2 fun x17 =>
  sLd h_6 x17 fun x18 =>
  sAdd .i64 x18 (.int .i64 1) fun x19 =>
  sNil x0 fun x20 =>
  sOff x20 2 fun x21 =>
  sSt h_6 x21 x19 fun h_10 => 
  R (.bool false) h_10))
def fifo_Queue_Put_S (x0 x1 : Value) (h : Heap) (R : Value → Heap → Prop) : Prop :=
  sNil x0 fun x7 =>
  sOff x7 3 fun x8 =>
  sLd h x8 fun x9 =>
  sLen x9 fun x10 =>
  fifo_Queue_taken_c x0 h fun x12 h => 
  sIf x12 (sSub .i64 x10 (.int .i64 1) fun x14 =>
  fifo_Queue_Put_j1 R x0 x1 x14 h) (fifo_Queue_Put_j1 R x0 x1 x10 h)
set_option maxRecDepth 100000 in
theorem fifo_Queue_Put_runs {x0 x1 : Value} {h : Heap} {R : Value → Heap → Prop} (H : fifo_Queue_Put_S x0 x1 h R) : fifo_Queue_Put_c x0 x1 h R := by
  unfold fifo_Queue_Put_S at H
  refine runs_of (b := ⟨([x0, x1, undef, undef, undef, undef, undef, undef, undef, undef, undef, undef, undef, undef, undef, undef, undef, undef, undef, undef, undef, undef, undef, undef, undef, undef, undef, undef, undef, undef, undef, undef, undef, undef, undef, undef, undef, undef, undef, undef, undef, undef, undef, undef, undef, undef, undef, undef, undef, undef] ++ [undef, undef, undef, undef, undef, undef, undef, undef, undef, undef, undef, undef, undef]).toArray, []⟩) Try.call39 Try.func39 rfl (by kernel_rfl) (fun w0 HA => ?_)
  refine wp_seq ?_
  refine lwp_list ?_
  refine ls_assign (x := (.bool false)) (by kernel_rfl) (by kernel_rfl) ?_
  refine ls_nil ?_
  refine then_normal ?_
  refine fr_eq (b := ⟨([x0, x1, undef, undef, (.bool false), undef, undef, undef, undef, undef, undef, undef, undef, undef, undef, undef, undef, undef, undef, undef, undef, undef, undef, undef, undef, undef, undef, undef, undef, undef, undef, undef, undef, undef, undef, undef, undef, undef, undef, undef, undef, undef, undef, undef, undef, undef, undef, undef, undef, undef] ++ [undef, undef, undef, undef, undef, undef, undef, undef, undef, undef, undef, undef, undef]).toArray, []⟩) (by kernel_rfl) ?_
  refine wp_seq ?_
  refine lwp_list ?_
  refine ls_move (x := x0) (by kernel_rfl) (by kernel_rfl) ?_
  refine ls_p (d := some 7) (by kernel_rfl) (by kernel_rfl) (p_nil (by kernel_rfl) H) (fun x7 H => ?_)
  refine ls_p (d := some 8) (by kernel_rfl) (by kernel_rfl) (p_off Try.underlying96 rfl (fun w => ⟨_, Try.sizeOf94 w⟩) rfl (by kernel_rfl) H) (fun x8 H => ?_)
  refine ls_y (d := some 9) (by kernel_rfl) (by kernel_rfl) HA (y_ld Try.isAgg94 (by kernel_rfl) H) (fun x9 H => ?_)
  refine ls_p (d := some 10) (by kernel_rfl) (by kernel_rfl) (p_len Try.underlying94 (by kernel_rfl) H) (fun x10 H => ?_)
  refine ls_assign (x := x10) (by kernel_rfl) (by kernel_rfl) ?_
  refine ls_nil ?_
  refine then_normal ?_
  refine fr_eq (b := ⟨([x0, x1, undef, undef, (.bool false), x10, x0, x7, x8, x9, x10, undef, undef, undef, undef, undef, undef, undef, undef, undef, undef, undef, undef, undef, undef, undef, undef, undef, undef, undef, undef, undef, undef, undef, undef, undef, undef, undef, undef, undef, undef, undef, undef, undef, undef, undef, undef, undef, undef, undef] ++ [undef, undef, undef, undef, undef, undef, undef, undef, undef, undef, undef, undef, undef]).toArray, []⟩) (by kernel_rfl) ?_
  refine wp_seq ?_
  refine wp_seq ?_
  refine lwp_list ?_
  refine ls_move (x := x0) (by kernel_rfl) (by kernel_rfl) ?_
  refine ls_d (d := some 12) (by kernel_rfl) (by kernel_rfl) HA (d_call (by kernel_rfl) (by kernel_rfl) H) (fun x12 h w H HA => ?_)
  refine ls_nil ?_
  refine then_normal ?_
  refine fr_eq (b := ⟨([x0, x1, undef, undef, (.bool false), x10, x0, x7, x8, x9, x10, x0, x12, undef, undef, undef, undef, undef, undef, undef, undef, undef, undef, undef, undef, undef, undef, undef, undef, undef, undef, undef, undef, undef, undef, undef, undef, undef, undef, undef, undef, undef, undef, undef, undef, undef, undef, undef, undef, undef] ++ [undef, undef, undef, undef, undef, undef, undef, undef, undef, undef, undef, undef, undef]).toArray, []⟩) (by kernel_rfl) ?_
  refine wp_join (fun a w => ∃ (D : Nat → Value) (x5 : Value) (h_1 : Heap), a = ⟨([x0, x1, undef, undef, (.bool false), x5, x0, x7, x8, x9, x10, x0, x12, (D 0), (D 1), undef, undef, undef, undef, undef, undef, undef, undef, undef, undef, undef, undef, undef, undef, undef, undef, undef, undef, undef, undef, undef, undef, undef, undef, undef, undef, undef, undef, undef, undef, undef, undef, undef, undef, undef] ++ [undef, undef, undef, undef, undef, undef, undef, undef, undef, undef, undef, undef, undef]).toArray, []⟩ ∧ At w0 w h_1 ∧ fifo_Queue_Put_j1 R x0 x1 x5 h_1) ?_ ?_
  · refine wp_if rfl H (fun H => ?_) (fun H => ?_)
    · refine lwp_list ?_
      refine ls_move (x := x10) (by kernel_rfl) (by kernel_rfl) ?_
      refine ls_p (d := some 14) (by kernel_rfl) (by kernel_rfl) (p_sub (by kernel_rfl) (by kernel_rfl) H) (fun x14 H => ?_)
      refine ls_assign (x := x14) (by kernel_rfl) (by kernel_rfl) ?_
      refine ls_nil ?_
      exact ⟨(fun i => ([x10, x14]).getD i undef), x14, h, by kernel_rfl, HA, H⟩
    · refine wp_skip ?_
      exact ⟨(fun i => ([undef, undef]).getD i undef), x10, h, by kernel_rfl, HA, H⟩
  · rintro _ w_1 ⟨D, x5, h_1, rfl, HA_1, H⟩
    unfold fifo_Queue_Put_j1 at H
    refine then_normal ?_
    refine fr_eq (b := ⟨([x0, x1, undef, undef, (.bool false), x5, x0, x7, x8, x9, x10, x0, x12, (D 0), (D 1), undef, undef, undef, undef, undef, undef, undef, undef, undef, undef, undef, undef, undef, undef, undef, undef, undef, undef, undef, undef, undef, undef, undef, undef, undef, undef, undef, undef, undef, undef, undef, undef, undef, undef, undef] ++ [undef, undef, undef, undef, undef, undef, undef, undef, undef, undef, undef, undef, undef]).toArray, []⟩) (by kernel_rfl) ?_
    refine wp_seq ?_
    refine wp_join (fun a w => ∃ (D_1 : Nat → Value) (h_2 : Heap), a = ⟨([x0, x1, undef, undef, (D_1 0), x5, x0, x7, x8, x9, x10, x0, x12, (D 0), (D 1), (D_1 1), (D_1 2), (D_1 3), (D_1 4), (D_1 5), (D_1 6), (D_1 7), (D_1 8), (D_1 9), (D_1 10), (D_1 11), (D_1 12), (D_1 13), (D_1 14), (D_1 15), (D_1 16), (D_1 17), (D_1 18), (D_1 19), (D_1 20), (D_1 21), (D_1 22), (D_1 23), (D_1 24), (D_1 25), (D_1 26), (D_1 27), (D_1 28), (D_1 29), (D_1 30), (D_1 31), (D_1 32), (D_1 33), (D_1 34), (D_1 35)] ++ [(D_1 36), (D_1 37), (D_1 38), (D_1 39), (D_1 40), (D_1 41), (D_1 42), (D_1 43), (D_1 44), (D_1 45), (D_1 46), (D_1 47), (D_1 48)]).toArray, []⟩ ∧ At w0 w h_2 ∧ fifo_Queue_Put_j2 R h_2) ?_ ?_
    · refine wp_block ?_
      refine wp_seq ?_
      refine lwp_list ?_
      refine ls_move (x := x5) (by kernel_rfl) (by kernel_rfl) ?_
      refine ls_move (x := x0) (by kernel_rfl) (by kernel_rfl) ?_
      refine ls_p (d := some 25) (by kernel_rfl) (by kernel_rfl) (p_nil (by kernel_rfl) H) (fun x25 H => ?_)
      refine ls_p (d := some 26) (by kernel_rfl) (by kernel_rfl) (p_off Try.underlying96 rfl (fun w => ⟨_, Try.sizeOf3 w⟩) rfl (by kernel_rfl) H) (fun x26 H => ?_)
      refine ls_y (d := some 27) (by kernel_rfl) (by kernel_rfl) HA_1 (y_ld Try.isAgg3 (by kernel_rfl) H) (fun x27 H => ?_)
      refine ls_p (d := some 28) (by kernel_rfl) (by kernel_rfl) (p_sLt (by kernel_rfl) (by kernel_rfl) H) (fun x28 H => ?_)
      refine ls_fr (b := ⟨([x0, x1, undef, undef, (.bool false), x5, x0, x7, x8, x9, x10, x0, x12, (D 0), (D 1), undef, undef, undef, undef, undef, undef, undef, undef, x5, x0, x25, x26, x27, x28, undef, undef, undef, undef, undef, undef, undef, undef, undef, undef, undef, undef, undef, undef, undef, undef, undef, undef, undef, undef, undef] ++ [undef, undef, undef, undef, undef, undef, undef, undef, undef, undef, undef, undef, undef]).toArray, []⟩) (by kernel_rfl) ?_
      refine ls_assign (x := x28) (by kernel_rfl) (by kernel_rfl) ?_
      refine ls_nil ?_
      refine then_normal ?_
      refine fr_eq (b := ⟨([x0, x1, undef, undef, (.bool false), x5, x0, x7, x8, x9, x10, x0, x12, (D 0), (D 1), undef, undef, undef, undef, undef, undef, undef, x28, x5, x0, x25, x26, x27, x28, undef, undef, undef, undef, undef, undef, undef, undef, undef, undef, undef, undef, undef, undef, undef, undef, undef, undef, undef, undef, undef] ++ [undef, undef, undef, undef, undef, undef, undef, undef, undef, undef, undef, undef, undef]).toArray, []⟩) (by kernel_rfl) ?_
      refine wp_if rfl H (fun H => ?_) (fun H => ?_)
      · refine lwp_list ?_
        refine ls_move (x := x0) (by kernel_rfl) (by kernel_rfl) ?_
        refine ls_move (x := x0) (by kernel_rfl) (by kernel_rfl) ?_
        refine ls_p (d := some 31) (by kernel_rfl) (by kernel_rfl) (p_nil (by kernel_rfl) H) (fun x31 H => ?_)
        refine ls_p (d := some 32) (by kernel_rfl) (by kernel_rfl) (p_off Try.underlying96 rfl (fun w => ⟨_, Try.sizeOf94 w⟩) rfl (by kernel_rfl) H) (fun x32 H => ?_)
        refine ls_y (d := some 33) (by kernel_rfl) (by kernel_rfl) HA_1 (y_ld Try.isAgg94 (by kernel_rfl) H) (fun x33 H => ?_)
        refine ls_move (x := x1) (by kernel_rfl) (by kernel_rfl) ?_
        refine ls_fr (b := ⟨([x0, x1, undef, undef, (.bool false), x5, x0, x7, x8, x9, x10, x0, x12, (D 0), (D 1), undef, undef, undef, undef, undef, undef, undef, x28, x5, x0, x25, x26, x27, x28, x0, x0, x31, x32, x33, x1, undef, undef, undef, undef, undef, undef, undef, undef, undef, undef, undef, undef, undef, undef, undef] ++ [undef, undef, undef, undef, undef, undef, undef, undef, undef, undef, undef, undef, undef]).toArray, []⟩) (by kernel_rfl) ?_
        refine ls_p (d := some 35) (by kernel_rfl) (by kernel_rfl) (p_lit (pl := [(0, 1), (1, 1)]) Try.zeroValue98 Try.underlying98 ⟨(by kernel_rfl), Try.sizeOf3, (by kernel_rfl), Try.sizeOf4, trivial⟩ (by kernel_rfl) (by kernel_rfl) H) (fun x35 H => ?_)
        refine ls_d (d := some 36) (by kernel_rfl) (by kernel_rfl) HA_1 (d_slit (zc := #[.int .i64 0, .bool false]) Try.underlying94 Try.sizeOf98 (by decide) (.inr ⟨by decide, _, Try.zeroValue98, (by kernel_rfl)⟩) (by kernel_rfl) (by kernel_rfl) H) (fun x36 h_3 w_3 H HA_3 => ?_)
        refine ls_d (d := some 37) (by kernel_rfl) (by kernel_rfl) HA_3 (d_app (z := #[.int .i64 0, .bool false]) Try.underlying94 Try.underlying94 (.inl ⟨_, rfl⟩) Try.typeInfo98 (by kernel_rfl) Try.sizeOf98 Try.zeroValue98 (by kernel_rfl) (by kernel_rfl) (by kernel_rfl) H) (fun x37 h_4 w_4 H HA_4 => ?_)
        refine ls_p (d := some 38) (by kernel_rfl) (by kernel_rfl) (p_nil (by kernel_rfl) H) (fun x38 H => ?_)
        refine ls_p (d := some 39) (by kernel_rfl) (by kernel_rfl) (p_off Try.underlying96 rfl (fun w => ⟨_, Try.sizeOf94 w⟩) rfl (by kernel_rfl) H) (fun x39 H => ?_)
        refine ls_d (d := none) (by kernel_rfl) (by kernel_rfl) HA_4 (d_st Try.sizeOf94 (by kernel_rfl) (by kernel_rfl) H) (fun _ h_5 w_5 H HA_5 => ?_)
        refine ls_nil ?_
        refine block_normal ?_
        exact ⟨(fun i => ([(.bool false), undef, undef, undef, undef, undef, undef, undef, x28, x5, x0, x25, x26, x27, x28, x0, x0, x31, x32, x33, x1, x35, x36, x37, x38, x39, undef, undef, undef, undef, undef, undef, undef, undef, undef, undef, undef, undef, undef, undef, undef, undef, undef, undef, undef, undef, undef, undef, undef]).getD i undef), h_5, by kernel_rfl, HA_5, H⟩
      · refine wp_seq ?_
        refine lwp_list ?_
        refine ls_move (x := x1) (by kernel_rfl) (by kernel_rfl) ?_
        refine ls_move (x := x0) (by kernel_rfl) (by kernel_rfl) ?_
        refine ls_p (d := some 43) (by kernel_rfl) (by kernel_rfl) (p_nil (by kernel_rfl) H) (fun x43 H => ?_)
        refine ls_p (d := some 44) (by kernel_rfl) (by kernel_rfl) (p_off Try.underlying96 rfl (fun w => ⟨_, Try.sizeOf3 w⟩) rfl (by kernel_rfl) H) (fun x44 H => ?_)
        refine ls_y (d := some 45) (by kernel_rfl) (by kernel_rfl) HA_1 (y_ld Try.isAgg3 (by kernel_rfl) H) (fun x45 H => ?_)
        refine ls_p (d := some 46) (by kernel_rfl) (by kernel_rfl) (p_sEq (by kernel_rfl) (by kernel_rfl) H) (fun x46 H => ?_)
        refine ls_fr (b := ⟨([x0, x1, undef, undef, (.bool false), x5, x0, x7, x8, x9, x10, x0, x12, (D 0), (D 1), undef, undef, undef, undef, undef, undef, undef, x28, x5, x0, x25, x26, x27, x28, undef, undef, undef, undef, undef, undef, undef, undef, undef, undef, undef, undef, x1, x0, x43, x44, x45, x46, undef, undef, undef] ++ [undef, undef, undef, undef, undef, undef, undef, undef, undef, undef, undef, undef, undef]).toArray, []⟩) (by kernel_rfl) ?_
        refine ls_move (x := x46) (by kernel_rfl) (by kernel_rfl) ?_
        refine ls_andh [(), (), (), ()] (fun K a w => ∃ (D_2 : Nat → Value) (x51 : Value) (h_6 : Heap), a = ⟨([x0, x1, undef, undef, (.bool false), x5, x0, x7, x8, x9, x10, x0, x12, (D 0), (D 1), undef, undef, undef, undef, undef, undef, undef, x28, x5, x0, x25, x26, x27, x28, undef, undef, undef, undef, undef, undef, undef, undef, undef, undef, undef, undef, x1, x0, x43, x44, x45, x46, x46, (D_2 0), (D_2 1)] ++ [(D_2 2), x51, undef, undef, undef, undef, undef, undef, undef, undef, undef, undef, undef]).toArray, []⟩ ∧ At w0 w h_6 ∧ K x51 h_6) H (fun hb H => ?_) (fun hb H => ?_) ?_
        · refine ls_move (x := x0) (by rw [hb]; kernel_rfl) (by kernel_rfl) ?_
          refine ls_d (d := some 49) (by kernel_rfl) (by rw [hb]; kernel_rfl) HA_1 (d_call (by kernel_rfl) (by kernel_rfl) H) (fun x49 h_11 w_11 H HA_11 => ?_)
          refine ls_p (d := some 50) (by kernel_rfl) (by rw [hb]; kernel_rfl) (p_not (by kernel_rfl) H) (fun x50 H => ?_)
          refine ls_pick_t (x := x50) (by kernel_rfl) (by rw [hb]; kernel_rfl) (by kernel_rfl) ?_
          refine ls_nil ?_
          refine then_normal ?_
          exact ⟨(fun i => ([x0, x49, x50]).getD i undef), x50, h_11, by kernel_rfl, HA_11, H⟩
        · refine ls_skip (d := some 48) (by kernel_rfl) (by rw [hb]; kernel_rfl) ?_
          refine ls_skip (d := some 49) (by kernel_rfl) (by rw [hb]; kernel_rfl) ?_
          refine ls_skip (d := some 50) (by kernel_rfl) (by rw [hb]; kernel_rfl) ?_
          refine ls_pick_f (y := (.bool false)) (by kernel_rfl) (by rw [hb]; kernel_rfl) (by kernel_rfl) ?_
          refine ls_nil ?_
          refine then_normal ?_
          exact ⟨(fun i => ([undef, undef, undef]).getD i undef), (.bool false), h_1, by kernel_rfl, HA_1, H⟩
        · rintro _ w_6 ⟨D_2, x51, h_6, rfl, HA_6, H⟩
          refine ls_assign (x := x51) (by kernel_rfl) (by kernel_rfl) ?_
          refine ls_nil ?_
          refine then_normal ?_
          refine fr_eq (b := ⟨([x0, x1, undef, undef, (.bool false), x5, x0, x7, x8, x9, x10, x0, x12, (D 0), (D 1), undef, undef, undef, undef, undef, undef, undef, x28, x5, x0, x25, x26, x27, x28, undef, undef, undef, undef, undef, undef, undef, undef, undef, undef, undef, x51, x1, x0, x43, x44, x45, x46, x46, (D_2 0), (D_2 1)] ++ [(D_2 2), x51, undef, undef, undef, undef, undef, undef, undef, undef, undef, undef, undef]).toArray, []⟩) (by kernel_rfl) ?_
          refine wp_if rfl H (fun H => ?_) (fun H => ?_)
          · refine lwp_list ?_
            refine ls_move (x := x0) (by kernel_rfl) (by kernel_rfl) ?_
            refine ls_move (x := x0) (by kernel_rfl) (by kernel_rfl) ?_
            refine ls_p (d := some 54) (by kernel_rfl) (by kernel_rfl) (p_nil (by kernel_rfl) H) (fun x54 H => ?_)
            refine ls_p (d := some 55) (by kernel_rfl) (by kernel_rfl) (p_off Try.underlying96 rfl (fun w => ⟨_, Try.sizeOf94 w⟩) rfl (by kernel_rfl) H) (fun x55 H => ?_)
            refine ls_y (d := some 56) (by kernel_rfl) (by kernel_rfl) HA_6 (y_ld Try.isAgg94 (by kernel_rfl) H) (fun x56 H => ?_)
            refine ls_move (x := x1) (by kernel_rfl) (by kernel_rfl) ?_
            refine ls_fr (b := ⟨([x0, x1, undef, undef, (.bool false), x5, x0, x7, x8, x9, x10, x0, x12, (D 0), (D 1), undef, undef, undef, undef, undef, undef, undef, x28, x5, x0, x25, x26, x27, x28, undef, undef, undef, undef, undef, undef, undef, undef, undef, undef, undef, x51, x1, x0, x43, x44, x45, x46, x46, (D_2 0), (D_2 1)] ++ [(D_2 2), x51, x0, x0, x54, x55, x56, x1, undef, undef, undef, undef, undef]).toArray, []⟩) (by kernel_rfl) ?_
            refine ls_p (d := some 58) (by kernel_rfl) (by kernel_rfl) (p_lit (pl := [(0, 1), (1, 1)]) Try.zeroValue98 Try.underlying98 ⟨(by kernel_rfl), Try.sizeOf3, (by kernel_rfl), Try.sizeOf4, trivial⟩ (by kernel_rfl) (by kernel_rfl) H) (fun x58 H => ?_)
            refine ls_d (d := some 59) (by kernel_rfl) (by kernel_rfl) HA_6 (d_slit (zc := #[.int .i64 0, .bool false]) Try.underlying94 Try.sizeOf98 (by decide) (.inr ⟨by decide, _, Try.zeroValue98, (by kernel_rfl)⟩) (by kernel_rfl) (by kernel_rfl) H) (fun x59 h_7 w_7 H HA_7 => ?_)
            refine ls_d (d := some 60) (by kernel_rfl) (by kernel_rfl) HA_7 (d_app (z := #[.int .i64 0, .bool false]) Try.underlying94 Try.underlying94 (.inl ⟨_, rfl⟩) Try.typeInfo98 (by kernel_rfl) Try.sizeOf98 Try.zeroValue98 (by kernel_rfl) (by kernel_rfl) (by kernel_rfl) H) (fun x60 h_8 w_8 H HA_8 => ?_)
            refine ls_p (d := some 61) (by kernel_rfl) (by kernel_rfl) (p_nil (by kernel_rfl) H) (fun x61 H => ?_)
            refine ls_p (d := some 62) (by kernel_rfl) (by kernel_rfl) (p_off Try.underlying96 rfl (fun w => ⟨_, Try.sizeOf94 w⟩) rfl (by kernel_rfl) H) (fun x62 H => ?_)
            refine ls_d (d := none) (by kernel_rfl) (by kernel_rfl) HA_8 (d_st Try.sizeOf94 (by kernel_rfl) (by kernel_rfl) H) (fun _ h_9 w_9 H HA_9 => ?_)
            refine ls_nil ?_
            refine block_normal ?_
            exact ⟨(fun i => ([(.bool false), undef, undef, undef, undef, undef, undef, undef, x28, x5, x0, x25, x26, x27, x28, undef, undef, undef, undef, undef, undef, undef, undef, undef, undef, undef, x51, x1, x0, x43, x44, x45, x46, x46, (D_2 0), (D_2 1), (D_2 2), x51, x0, x0, x54, x55, x56, x1, x58, x59, x60, x61, x62]).getD i undef), h_9, by kernel_rfl, HA_9, H⟩
          · refine wp_seq ?_
            refine lwp_list ?_
            refine ls_move (x := x0) (by kernel_rfl) (by kernel_rfl) ?_
            refine ls_p (d := some 16) (by kernel_rfl) (by kernel_rfl) (p_nil (by kernel_rfl) H) (fun x16 H => ?_)
            refine ls_p (d := some 17) (by kernel_rfl) (by kernel_rfl) (p_off Try.underlying96 rfl (fun w => ⟨_, Try.sizeOf3 w⟩) rfl (by kernel_rfl) H) (fun x17 H => ?_)
            refine ls_y (d := some 18) (by kernel_rfl) (by kernel_rfl) HA_6 (y_ld Try.isAgg3 (by kernel_rfl) H) (fun x18 H => ?_)
            refine ls_p (d := some 19) (by kernel_rfl) (by kernel_rfl) (p_add (by kernel_rfl) (by kernel_rfl) H) (fun x19 H => ?_)
            refine ls_p (d := some 20) (by kernel_rfl) (by kernel_rfl) (p_nil (by kernel_rfl) H) (fun x20 H => ?_)
            refine ls_fr (b := ⟨([x0, x1, undef, undef, (.bool false), x5, x0, x7, x8, x9, x10, x0, x12, (D 0), (D 1), x0, x16, x17, x18, x19, x20, undef, x28, x5, x0, x25, x26, x27, x28, undef, undef, undef, undef, undef, undef, undef, undef, undef, undef, undef, x51, x1, x0, x43, x44, x45, x46, x46, (D_2 0), (D_2 1)] ++ [(D_2 2), x51, undef, undef, undef, undef, undef, undef, undef, undef, undef, undef, undef]).toArray, []⟩) (by kernel_rfl) ?_
            refine ls_p (d := some 21) (by kernel_rfl) (by kernel_rfl) (p_off Try.underlying96 rfl (fun w => ⟨_, Try.sizeOf3 w⟩) rfl (by kernel_rfl) H) (fun x21 H => ?_)
            refine ls_d (d := none) (by kernel_rfl) (by kernel_rfl) HA_6 (d_st Try.sizeOf3 (by kernel_rfl) (by kernel_rfl) H) (fun _ h_10 w_10 H HA_10 => ?_)
            refine ls_nil ?_
            refine then_normal ?_
            refine fr_eq (b := ⟨([x0, x1, undef, undef, (.bool false), x5, x0, x7, x8, x9, x10, x0, x12, (D 0), (D 1), x0, x16, x17, x18, x19, x20, x21, x28, x5, x0, x25, x26, x27, x28, undef, undef, undef, undef, undef, undef, undef, undef, undef, undef, undef, x51, x1, x0, x43, x44, x45, x46, x46, (D_2 0), (D_2 1)] ++ [(D_2 2), x51, undef, undef, undef, undef, undef, undef, undef, undef, undef, undef, undef]).toArray, []⟩) (by kernel_rfl) ?_
            refine wp_seq ?_
            refine lwp_list ?_
            refine ls_assign (x := (.bool false)) (by kernel_rfl) (by kernel_rfl) ?_
            refine ls_nil ?_
            refine then_normal ?_
            refine fr_eq (b := ⟨([x0, x1, undef, undef, (.bool false), x5, x0, x7, x8, x9, x10, x0, x12, (D 0), (D 1), x0, x16, x17, x18, x19, x20, x21, x28, x5, x0, x25, x26, x27, x28, undef, undef, undef, undef, undef, undef, undef, undef, undef, undef, undef, x51, x1, x0, x43, x44, x45, x46, x46, (D_2 0), (D_2 1)] ++ [(D_2 2), x51, undef, undef, undef, undef, undef, undef, undef, undef, undef, undef, undef]).toArray, []⟩) (by kernel_rfl) ?_
            refine wp_ret ?_
            refine block_ret ?_
            refine then_ret ?_
            refine then_ret ?_
            exact end1 (Try.results39) (by kernel_rfl) (by kernel_rfl) HA_10 H _ (.inr rfl)
    · rintro _ w_2 ⟨D_1, h_2, rfl, HA_2, H⟩
      unfold fifo_Queue_Put_j2 at H
      refine then_normal ?_
      refine fr_eq (b := ⟨([x0, x1, undef, undef, (D_1 0), x5, x0, x7, x8, x9, x10, x0, x12, (D 0), (D 1), (D_1 1), (D_1 2), (D_1 3), (D_1 4), (D_1 5), (D_1 6), (D_1 7), (D_1 8), (D_1 9), (D_1 10), (D_1 11), (D_1 12), (D_1 13), (D_1 14), (D_1 15), (D_1 16), (D_1 17), (D_1 18), (D_1 19), (D_1 20), (D_1 21), (D_1 22), (D_1 23), (D_1 24), (D_1 25), (D_1 26), (D_1 27), (D_1 28), (D_1 29), (D_1 30), (D_1 31), (D_1 32), (D_1 33), (D_1 34), (D_1 35)] ++ [(D_1 36), (D_1 37), (D_1 38), (D_1 39), (D_1 40), (D_1 41), (D_1 42), (D_1 43), (D_1 44), (D_1 45), (D_1 46), (D_1 47), (D_1 48)]).toArray, []⟩) (by kernel_rfl) ?_
      refine wp_seq ?_
      refine lwp_list ?_
      refine ls_assign (x := (.bool true)) (by kernel_rfl) (by kernel_rfl) ?_
      refine ls_nil ?_
      refine then_normal ?_
      refine fr_eq (b := ⟨([x0, x1, undef, undef, (.bool true), x5, x0, x7, x8, x9, x10, x0, x12, (D 0), (D 1), (D_1 1), (D_1 2), (D_1 3), (D_1 4), (D_1 5), (D_1 6), (D_1 7), (D_1 8), (D_1 9), (D_1 10), (D_1 11), (D_1 12), (D_1 13), (D_1 14), (D_1 15), (D_1 16), (D_1 17), (D_1 18), (D_1 19), (D_1 20), (D_1 21), (D_1 22), (D_1 23), (D_1 24), (D_1 25), (D_1 26), (D_1 27), (D_1 28), (D_1 29), (D_1 30), (D_1 31), (D_1 32), (D_1 33), (D_1 34), (D_1 35)] ++ [(D_1 36), (D_1 37), (D_1 38), (D_1 39), (D_1 40), (D_1 41), (D_1 42), (D_1 43), (D_1 44), (D_1 45), (D_1 46), (D_1 47), (D_1 48)]).toArray, []⟩) (by kernel_rfl) ?_
      refine wp_ret ?_
      exact end1 (Try.results39) (by kernel_rfl) (by kernel_rfl) HA_2 H _ (.inr rfl)

end Go.Proofs.Ytecoejjpdogklaa
