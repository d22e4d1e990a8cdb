/- The shallow reading of one function, and that the function does it. Written by a program. -/
import Derived.Test.YtecoejjpdogklaaFnC
set_option linter.unusedVariables false
namespace Go.Proofs.Ytecoejjpdogklaa
open Go Go.HW

def betonylaw09_awake_S (h : Heap) (R : Value → Heap → Prop) : Prop :=
  uart_New_c (.int .i64 1) h fun x6 h => 
  sEqlNil x6 fun x8 =>
  sOrH x8 h (fun k_4 =>
  uart_Line_Receive_c x6 (.int .u8 97) (.int .i64 0) h fun x11 h_11 => 
  sNot x11 fun x12 =>
  k_4 x12 h_11) fun x13 h_1 =>
  sOrH x13 h_1 (fun k_3 =>
  uart_Line_Receive_c x6 (.int .u8 98) (.int .i64 0) h_1 fun x16 h_10 => 
  k_3 x16 h_10) fun x17 h_2 =>
  sIf x17 (R (.bool false) h_2) (uart_Line_Read_c x6 h_2 fun x20 h_3 => 
  sTup x20 0 fun x21 =>
  sTup x20 1 fun x22 =>
  sNew h_3 #[.int .u8 0, .int .i64 0] 48 fun x2 h_4 => 
  sStN h_4 x2 x21 2 fun h_5 => 
  uart_Line_Receive_c x6 (.int .u8 99) (.int .i64 0) h_5 fun x24 h_6 => 
  uart_Line_Read_c x6 h_6 fun x27 h_7 => 
  sTup x27 0 fun x28 =>
  sTup x27 1 fun x29 =>
  sNew h_7 #[.int .u8 0, .int .i64 0] 48 fun x4 h_8 => 
  sStN h_8 x4 x28 2 fun h_9 => 
  sAnd x22 (fun k_2 =>
  k_2 x29) fun x33 =>
  sAnd x33 (fun k_1 =>
  sLdN h_9 x2 2 fun x35 =>
  sBuild #[.int .u8 0, .int .i64 0] [(0, 1, (.int .u8 97))] fun x36 =>
  sEqlAgg x35 x36 [some .u8, some .i64] fun x37 =>
  k_1 x37) fun x38 =>
  sAnd x38 (fun k =>
  sLdN h_9 x4 2 fun x40 =>
  sBuild #[.int .u8 0, .int .i64 0] [(0, 1, (.int .u8 99)), (1, 1, (.int .i64 1))] fun x41 =>
  sEqlAgg x40 x41 [some .u8, some .i64] fun x42 =>
  k x42) fun x43 =>
  R x43 h_9)
set_option maxRecDepth 100000 in
theorem betonylaw09_awake_runs {h : Heap} {R : Value → Heap → Prop} (H : betonylaw09_awake_S  h R) : betonylaw09_awake_c  h R := by
  unfold betonylaw09_awake_S at H
  refine runs_of (b := ⟨#[undef, undef, undef, undef, undef, undef, undef, undef, undef, undef, undef, undef, undef, undef, undef, undef, undef, undef, undef, undef, undef, undef, undef, undef, undef, undef, undef, undef, undef, undef, undef, undef, undef, undef, undef, undef, undef, undef, undef, undef, undef, undef, undef, undef], []⟩) Try.call28 Try.func28 rfl (by kernel_rfl) (fun w0 HA => ?_)
  refine wp_seq ?_
  refine lwp_list ?_
  refine ls_assign (x := (.bool false)) (by kernel_rfl) (by kernel_rfl) ?_
  refine ls_nil ?_
  refine then_normal ?_
  refine fr_eq (b := ⟨#[(.bool false), undef, undef, undef, undef, undef, undef, undef, undef, undef, undef, undef, undef, undef, undef, undef, undef, undef, undef, undef, undef, undef, undef, undef, undef, undef, undef, undef, undef, undef, undef, undef, undef, undef, undef, undef, undef, undef, undef, undef, undef, undef, undef, undef], []⟩) (by kernel_rfl) ?_
  refine wp_seq ?_
  refine lwp_list ?_
  refine ls_d (d := some 6) (by kernel_rfl) (by kernel_rfl) HA (d_call (by kernel_rfl) (by kernel_rfl) H) (fun x6 h w H HA => ?_)
  refine ls_assign (x := x6) (by kernel_rfl) (by kernel_rfl) ?_
  refine ls_nil ?_
  refine then_normal ?_
  refine fr_eq (b := ⟨#[(.bool false), x6, undef, undef, undef, undef, x6, undef, undef, undef, undef, undef, undef, undef, undef, undef, undef, undef, undef, undef, undef, undef, undef, undef, undef, undef, undef, undef, undef, undef, undef, undef, undef, undef, undef, undef, undef, undef, undef, undef, undef, undef, undef, undef], []⟩) (by kernel_rfl) ?_
  refine wp_seq ?_
  refine wp_seq ?_
  refine lwp_list ?_
  refine ls_move (x := x6) (by kernel_rfl) (by kernel_rfl) ?_
  refine ls_p (d := some 8) (by kernel_rfl) (by kernel_rfl) (p_eqlNil Try.underlying44 (by kernel_rfl) (by kernel_rfl) H) (fun x8 H => ?_)
  refine ls_move (x := x8) (by kernel_rfl) (by kernel_rfl) ?_
  refine ls_orh [(), (), (), ()] (fun K a w => ∃ (D : Nat → Value) (x13 : Value) (h_1 : Heap), a = ⟨#[(.bool false), x6, undef, undef, undef, undef, x6, x6, x8, x8, (D 0), (D 1), (D 2), x13, undef, undef, undef, undef, undef, undef, undef, undef, undef, undef, undef, undef, undef, undef, undef, undef, undef, undef, undef, undef, undef, undef, undef, undef, undef, undef, undef, undef, undef, undef], []⟩ ∧ At w0 w h_1 ∧ K x13 h_1) H (fun hb_4 H => ?_) (fun hb_4 H => ?_) ?_
  · refine ls_move (x := x6) (by rw [hb_4]; kernel_rfl) (by kernel_rfl) ?_
    refine ls_d (d := some 11) (by kernel_rfl) (by rw [hb_4]; kernel_rfl) HA (d_call (by kernel_rfl) (by kernel_rfl) H) (fun x11 h_11 w_14 H HA_14 => ?_)
    refine ls_p (d := some 12) (by kernel_rfl) (by rw [hb_4]; kernel_rfl) (p_not (by kernel_rfl) H) (fun x12 H => ?_)
    refine ls_fr (b := ⟨#[(.bool false), x6, undef, undef, undef, undef, x6, x6, x8, x8, x6, x11, x12, undef, undef, undef, undef, undef, undef, undef, undef, undef, undef, undef, undef, undef, undef, undef, undef, undef, undef, undef, undef, undef, undef, undef, undef, undef, undef, undef, undef, undef, undef, undef], []⟩) (by kernel_rfl) ?_
    refine ls_pick_f (y := x12) (by kernel_rfl) (by rw [hb_4]; kernel_rfl) (by kernel_rfl) ?_
    refine ls_nil ?_
    refine then_normal ?_
    exact ⟨(fun i => ([x6, x11, x12]).getD i undef), x12, h_11, by kernel_rfl, HA_14, H⟩
  · refine ls_skip (d := some 10) (by kernel_rfl) (by rw [hb_4]; kernel_rfl) ?_
    refine ls_skip (d := some 11) (by kernel_rfl) (by rw [hb_4]; kernel_rfl) ?_
    refine ls_skip (d := some 12) (by kernel_rfl) (by rw [hb_4]; kernel_rfl) ?_
    refine ls_fr (b := ⟨#[(.bool false), x6, undef, undef, undef, undef, x6, x6, x8, x8, undef, undef, undef, undef, undef, undef, undef, undef, undef, undef, undef, undef, undef, undef, undef, undef, undef, undef, undef, undef, undef, undef, undef, undef, undef, undef, undef, undef, undef, undef, undef, undef, undef, undef], []⟩) (by kernel_rfl) ?_
    refine ls_pick_t (x := (.bool true)) (by kernel_rfl) (by rw [hb_4]; kernel_rfl) (by kernel_rfl) ?_
    refine ls_nil ?_
    refine then_normal ?_
    exact ⟨(fun i => ([undef, undef, undef]).getD i undef), (.bool true), h, by kernel_rfl, HA, H⟩
  · rintro _ w_1 ⟨D, x13, h_1, rfl, HA_1, H⟩
    refine ls_move (x := x13) (by kernel_rfl) (by kernel_rfl) ?_
    refine ls_orh [(), (), ()] (fun K a w => ∃ (D_1 : Nat → Value) (x17 : Value) (h_2 : Heap), a = ⟨#[(.bool false), x6, undef, undef, undef, undef, x6, x6, x8, x8, (D 0), (D 1), (D 2), x13, x13, (D_1 0), (D_1 1), x17, undef, undef, undef, undef, undef, undef, undef, undef, undef, undef, undef, undef, undef, undef, undef, undef, undef, undef, undef, undef, undef, undef, undef, undef, undef, undef], []⟩ ∧ At w0 w h_2 ∧ K x17 h_2) H (fun hb_3 H => ?_) (fun hb_3 H => ?_) ?_
    · refine ls_move (x := x6) (by rw [hb_3]; kernel_rfl) (by kernel_rfl) ?_
      refine ls_d (d := some 16) (by kernel_rfl) (by rw [hb_3]; kernel_rfl) HA_1 (d_call (by kernel_rfl) (by kernel_rfl) H) (fun x16 h_10 w_13 H HA_13 => ?_)
      refine ls_pick_f (y := x16) (by kernel_rfl) (by rw [hb_3]; kernel_rfl) (by kernel_rfl) ?_
      refine ls_nil ?_
      refine then_normal ?_
      exact ⟨(fun i => ([x6, x16]).getD i undef), x16, h_10, by kernel_rfl, HA_13, H⟩
    · refine ls_skip (d := some 15) (by kernel_rfl) (by rw [hb_3]; kernel_rfl) ?_
      refine ls_skip (d := some 16) (by kernel_rfl) (by rw [hb_3]; kernel_rfl) ?_
      refine ls_pick_t (x := (.bool true)) (by kernel_rfl) (by rw [hb_3]; kernel_rfl) (by kernel_rfl) ?_
      refine ls_nil ?_
      refine then_normal ?_
      exact ⟨(fun i => ([undef, undef]).getD i undef), (.bool true), h_1, by kernel_rfl, HA_1, H⟩
    · rintro _ w_2 ⟨D_1, x17, h_2, rfl, HA_2, H⟩
      refine ls_nil ?_
      refine then_normal ?_
      refine fr_eq (b := ⟨#[(.bool false), x6, undef, undef, undef, undef, x6, x6, x8, x8, (D 0), (D 1), (D 2), x13, x13, (D_1 0), (D_1 1), x17, undef, undef, undef, undef, undef, undef, undef, undef, undef, undef, undef, undef, undef, undef, undef, undef, undef, undef, undef, undef, undef, undef, undef, undef, undef, undef], []⟩) (by kernel_rfl) ?_
      refine wp_if rfl H (fun H => ?_) (fun H => ?_)
      · refine wp_seq ?_
        refine lwp_list ?_
        refine ls_assign (x := (.bool false)) (by kernel_rfl) (by kernel_rfl) ?_
        refine ls_nil ?_
        refine then_normal ?_
        refine fr_eq (b := ⟨#[(.bool false), x6, undef, undef, undef, undef, x6, x6, x8, x8, (D 0), (D 1), (D 2), x13, x13, (D_1 0), (D_1 1), x17, undef, undef, undef, undef, undef, undef, undef, undef, undef, undef, undef, undef, undef, undef, undef, undef, undef, undef, undef, undef, undef, undef, undef, undef, undef, undef], []⟩) (by kernel_rfl) ?_
        refine wp_ret ?_
        refine then_ret ?_
        exact end1 (Try.results28) (by kernel_rfl) (by kernel_rfl) HA_2 H _ (.inr rfl)
      · refine wp_skip ?_
        refine then_normal ?_
        refine fr_eq (b := ⟨#[(.bool false), x6, undef, undef, undef, undef, x6, x6, x8, x8, (D 0), (D 1), (D 2), x13, x13, (D_1 0), (D_1 1), x17, undef, undef, undef, undef, undef, undef, undef, undef, undef, undef, undef, undef, undef, undef, undef, undef, undef, undef, undef, undef, undef, undef, undef, undef, undef, undef], []⟩) (by kernel_rfl) ?_
        refine wp_seq ?_
        refine lwp_list ?_
        refine ls_move (x := x6) (by kernel_rfl) (by kernel_rfl) ?_
        refine ls_d (d := some 20) (by kernel_rfl) (by kernel_rfl) HA_2 (d_call (by kernel_rfl) (by kernel_rfl) H) (fun x20 h_3 w_3 H HA_3 => ?_)
        refine ls_move (x := x20) (by kernel_rfl) (by kernel_rfl) ?_
        refine ls_p (d := some 21) (by kernel_rfl) (by kernel_rfl) (p_tup (by kernel_rfl) H) (fun x21 H => ?_)
        refine ls_p (d := some 22) (by kernel_rfl) (by kernel_rfl) (p_tup (by kernel_rfl) H) (fun x22 H => ?_)
        refine ls_d (d := some 2) (by kernel_rfl) (by kernel_rfl) HA_3 (d_alloc Try.zeroValue48 H) (fun x2 h_4 w_4 H HA_4 => ?_)
        refine ls_fr (b := ⟨#[(.bool false), x6, x2, undef, undef, undef, x6, x6, x8, x8, (D 0), (D 1), (D 2), x13, x13, (D_1 0), (D_1 1), x17, x20, x6, x20, x21, x22, undef, undef, undef, undef, undef, undef, undef, undef, undef, undef, undef, undef, undef, undef, undef, undef, undef, undef, undef, undef, undef], []⟩) (by kernel_rfl) ?_
        refine ls_d (d := none) (by kernel_rfl) (by kernel_rfl) HA_4 (d_stn Try.sizeOf48 (by kernel_rfl) (by kernel_rfl) H) (fun _ h_5 w_5 H HA_5 => ?_)
        refine ls_assign (x := x22) (by kernel_rfl) (by kernel_rfl) ?_
        refine ls_nil ?_
        refine then_normal ?_
        refine fr_eq (b := ⟨#[(.bool false), x6, x2, x22, undef, undef, x6, x6, x8, x8, (D 0), (D 1), (D 2), x13, x13, (D_1 0), (D_1 1), x17, x20, x6, x20, x21, x22, undef, undef, undef, undef, undef, undef, undef, undef, undef, undef, undef, undef, undef, undef, undef, undef, undef, undef, undef, undef, undef], []⟩) (by kernel_rfl) ?_
        refine wp_seq ?_
        refine lwp_list ?_
        refine ls_move (x := x6) (by kernel_rfl) (by kernel_rfl) ?_
        refine ls_d (d := some 24) (by kernel_rfl) (by kernel_rfl) HA_5 (d_call (by kernel_rfl) (by kernel_rfl) H) (fun x24 h_6 w_6 H HA_6 => ?_)
        refine ls_nil ?_
        refine then_normal ?_
        refine fr_eq (b := ⟨#[(.bool false), x6, x2, x22, undef, undef, x6, x6, x8, x8, (D 0), (D 1), (D 2), x13, x13, (D_1 0), (D_1 1), x17, x20, x6, x20, x21, x22, x6, x24, undef, undef, undef, undef, undef, undef, undef, undef, undef, undef, undef, undef, undef, undef, undef, undef, undef, undef, undef], []⟩) (by kernel_rfl) ?_
        refine wp_seq ?_
        refine lwp_list ?_
        refine ls_move (x := x6) (by kernel_rfl) (by kernel_rfl) ?_
        refine ls_d (d := some 27) (by kernel_rfl) (by kernel_rfl) HA_6 (d_call (by kernel_rfl) (by kernel_rfl) H) (fun x27 h_7 w_7 H HA_7 => ?_)
        refine ls_move (x := x27) (by kernel_rfl) (by kernel_rfl) ?_
        refine ls_p (d := some 28) (by kernel_rfl) (by kernel_rfl) (p_tup (by kernel_rfl) H) (fun x28 H => ?_)
        refine ls_p (d := some 29) (by kernel_rfl) (by kernel_rfl) (p_tup (by kernel_rfl) H) (fun x29 H => ?_)
        refine ls_d (d := some 4) (by kernel_rfl) (by kernel_rfl) HA_7 (d_alloc Try.zeroValue48 H) (fun x4 h_8 w_8 H HA_8 => ?_)
        refine ls_fr (b := ⟨#[(.bool false), x6, x2, x22, x4, undef, x6, x6, x8, x8, (D 0), (D 1), (D 2), x13, x13, (D_1 0), (D_1 1), x17, x20, x6, x20, x21, x22, x6, x24, x27, x6, x27, x28, x29, undef, undef, undef, undef, undef, undef, undef, undef, undef, undef, undef, undef, undef, undef], []⟩) (by kernel_rfl) ?_
        refine ls_d (d := none) (by kernel_rfl) (by kernel_rfl) HA_8 (d_stn Try.sizeOf48 (by kernel_rfl) (by kernel_rfl) H) (fun _ h_9 w_9 H HA_9 => ?_)
        refine ls_assign (x := x29) (by kernel_rfl) (by kernel_rfl) ?_
        refine ls_nil ?_
        refine then_normal ?_
        refine fr_eq (b := ⟨#[(.bool false), x6, x2, x22, x4, x29, x6, x6, x8, x8, (D 0), (D 1), (D 2), x13, x13, (D_1 0), (D_1 1), x17, x20, x6, x20, x21, x22, x6, x24, x27, x6, x27, x28, x29, undef, undef, undef, undef, undef, undef, undef, undef, undef, undef, undef, undef, undef, undef], []⟩) (by kernel_rfl) ?_
        refine wp_seq ?_
        refine lwp_list ?_
        refine ls_move (x := x22) (by kernel_rfl) (by kernel_rfl) ?_
        refine ls_move (x := x22) (by kernel_rfl) (by kernel_rfl) ?_
        refine ls_and [(), ()] (fun K a w => ∃ (D_2 : Nat → Value) (x33 : Value), a = ⟨#[(.bool false), x6, x2, x22, x4, x29, x6, x6, x8, x8, (D 0), (D 1), (D 2), x13, x13, (D_1 0), (D_1 1), x17, x20, x6, x20, x21, x22, x6, x24, x27, x6, x27, x28, x29, x22, x22, (D_2 0), x33, undef, undef, undef, undef, undef, undef, undef, undef, undef, undef], []⟩ ∧ At w0 w h_9 ∧ K x33) H (fun hb_2 H => ?_) (fun hb_2 H => ?_) ?_
        · refine ls_move (x := x29) (by rw [hb_2]; kernel_rfl) (by kernel_rfl) ?_
          refine ls_pick_t (x := x29) (by kernel_rfl) (by rw [hb_2]; kernel_rfl) (by kernel_rfl) ?_
          refine ls_nil ?_
          refine then_normal ?_
          exact ⟨(fun i => ([x29]).getD i undef), x29, by kernel_rfl, HA_9, H⟩
        · refine ls_skip (d := some 32) (by kernel_rfl) (by rw [hb_2]; kernel_rfl) ?_
          refine ls_pick_f (y := (.bool false)) (by kernel_rfl) (by rw [hb_2]; kernel_rfl) (by kernel_rfl) ?_
          refine ls_nil ?_
          refine then_normal ?_
          exact ⟨(fun i => ([undef]).getD i undef), (.bool false), by kernel_rfl, HA_9, H⟩
        · rintro _ w_10 ⟨D_2, x33, rfl, HA_10, H⟩
          refine ls_move (x := x33) (by kernel_rfl) (by kernel_rfl) ?_
          refine ls_and [(), (), (), ()] (fun K a w => ∃ (D_3 : Nat → Value) (x38 : Value), a = ⟨#[(.bool false), x6, x2, x22, x4, x29, x6, x6, x8, x8, (D 0), (D 1), (D 2), x13, x13, (D_1 0), (D_1 1), x17, x20, x6, x20, x21, x22, x6, x24, x27, x6, x27, x28, x29, x22, x22, (D_2 0), x33, x33, (D_3 0), (D_3 1), (D_3 2), x38, undef, undef, undef, undef, undef], []⟩ ∧ At w0 w h_9 ∧ K x38) H (fun hb_1 H => ?_) (fun hb_1 H => ?_) ?_
          · refine ls_y (d := some 35) (by kernel_rfl) (by rw [hb_1]; kernel_rfl) HA_10 (y_ldn Try.isAgg48 Try.sizeOf48 (by kernel_rfl) H) (fun x35 H => ?_)
            refine ls_p (d := some 36) (by kernel_rfl) (by rw [hb_1]; kernel_rfl) (p_lit (pl := [(0, 1), (1, 1)]) Try.zeroValue48 Try.underlying48 ⟨(by kernel_rfl), Try.sizeOf5, (by kernel_rfl), Try.sizeOf3, trivial⟩ (by kernel_rfl) (by kernel_rfl) H) (fun x36 H => ?_)
            refine ls_p (d := some 37) (by kernel_rfl) (by rw [hb_1]; kernel_rfl) (p_eqlAgg (eqT_48) (by kernel_rfl) (by kernel_rfl) H) (fun x37 H => ?_)
            refine ls_pick_t (x := x37) (by kernel_rfl) (by rw [hb_1]; kernel_rfl) (by kernel_rfl) ?_
            refine ls_nil ?_
            refine then_normal ?_
            exact ⟨(fun i => ([x35, x36, x37]).getD i undef), x37, by kernel_rfl, HA_10, H⟩
          · refine ls_skip (d := some 35) (by kernel_rfl) (by rw [hb_1]; kernel_rfl) ?_
            refine ls_skip (d := some 36) (by kernel_rfl) (by rw [hb_1]; kernel_rfl) ?_
            refine ls_skip (d := some 37) (by kernel_rfl) (by rw [hb_1]; kernel_rfl) ?_
            refine ls_pick_f (y := (.bool false)) (by kernel_rfl) (by rw [hb_1]; kernel_rfl) (by kernel_rfl) ?_
            refine ls_nil ?_
            refine then_normal ?_
            exact ⟨(fun i => ([undef, undef, undef]).getD i undef), (.bool false), by kernel_rfl, HA_10, H⟩
          · rintro _ w_11 ⟨D_3, x38, rfl, HA_11, H⟩
            refine ls_move (x := x38) (by kernel_rfl) (by kernel_rfl) ?_
            refine ls_and [(), (), (), ()] (fun K a w => ∃ (D_4 : Nat → Value) (x43 : Value), a = ⟨#[(.bool false), x6, x2, x22, x4, x29, x6, x6, x8, x8, (D 0), (D 1), (D 2), x13, x13, (D_1 0), (D_1 1), x17, x20, x6, x20, x21, x22, x6, x24, x27, x6, x27, x28, x29, x22, x22, (D_2 0), x33, x33, (D_3 0), (D_3 1), (D_3 2), x38, x38, (D_4 0), (D_4 1), (D_4 2), x43], []⟩ ∧ At w0 w h_9 ∧ K x43) H (fun hb H => ?_) (fun hb H => ?_) ?_
            · refine ls_y (d := some 40) (by kernel_rfl) (by rw [hb]; kernel_rfl) HA_11 (y_ldn Try.isAgg48 Try.sizeOf48 (by kernel_rfl) H) (fun x40 H => ?_)
              refine ls_p (d := some 41) (by kernel_rfl) (by rw [hb]; kernel_rfl) (p_lit (pl := [(0, 1), (1, 1)]) Try.zeroValue48 Try.underlying48 ⟨(by kernel_rfl), Try.sizeOf5, (by kernel_rfl), Try.sizeOf3, trivial⟩ (by kernel_rfl) (by kernel_rfl) H) (fun x41 H => ?_)
              refine ls_p (d := some 42) (by kernel_rfl) (by rw [hb]; kernel_rfl) (p_eqlAgg (eqT_48) (by kernel_rfl) (by kernel_rfl) H) (fun x42 H => ?_)
              refine ls_pick_t (x := x42) (by kernel_rfl) (by rw [hb]; kernel_rfl) (by kernel_rfl) ?_
              refine ls_nil ?_
              refine then_normal ?_
              exact ⟨(fun i => ([x40, x41, x42]).getD i undef), x42, by kernel_rfl, HA_11, H⟩
            · refine ls_skip (d := some 40) (by kernel_rfl) (by rw [hb]; kernel_rfl) ?_
              refine ls_skip (d := some 41) (by kernel_rfl) (by rw [hb]; kernel_rfl) ?_
              refine ls_skip (d := some 42) (by kernel_rfl) (by rw [hb]; kernel_rfl) ?_
              refine ls_pick_f (y := (.bool false)) (by kernel_rfl) (by rw [hb]; kernel_rfl) (by kernel_rfl) ?_
              refine ls_nil ?_
              refine then_normal ?_
              exact ⟨(fun i => ([undef, undef, undef]).getD i undef), (.bool false), by kernel_rfl, HA_11, H⟩
            · rintro _ w_12 ⟨D_4, x43, rfl, HA_12, H⟩
              refine ls_assign (x := x43) (by kernel_rfl) (by kernel_rfl) ?_
              refine ls_nil ?_
              refine then_normal ?_
              refine fr_eq (b := ⟨#[x43, x6, x2, x22, x4, x29, x6, x6, x8, x8, (D 0), (D 1), (D 2), x13, x13, (D_1 0), (D_1 1), x17, x20, x6, x20, x21, x22, x6, x24, x27, x6, x27, x28, x29, x22, x22, (D_2 0), x33, x33, (D_3 0), (D_3 1), (D_3 2), x38, x38, (D_4 0), (D_4 1), (D_4 2), x43], []⟩) (by kernel_rfl) ?_
              refine wp_ret ?_
              exact end1 (Try.results28) (by kernel_rfl) (by kernel_rfl) HA_12 H _ (.inr rfl)

end Go.Proofs.Ytecoejjpdogklaa
