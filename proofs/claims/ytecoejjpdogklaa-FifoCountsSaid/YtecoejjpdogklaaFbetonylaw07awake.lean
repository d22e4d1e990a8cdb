/- The shallow reading of one function, and that the function does it. Written by a program. -/
import Derived.Test.YtecoejjpdogklaaFnC
set_option linter.unusedVariables false
namespace Go.Proofs.Ytecoejjpdogklaa
open Go Go.HW

def betonylaw07_awake_S (h : Heap) (R : Value → Heap → Prop) : Prop :=
  fifo_New_c (.int .i64 1) (.int .i64 9) h fun x2 h => 
  sNeqNil x2 fun x4 =>
  sAndH x4 h (fun k_5 =>
  fifo_Queue_Put_c x2 (.int .i64 1) h fun x7 h_12 => 
  k_5 x7 h_12) fun x8 h_1 =>
  sAndH x8 h_1 (fun k_4 =>
  fifo_Queue_Put_c x2 (.int .i64 2) h_1 fun x11 h_11 => 
  sNot x11 fun x12 =>
  k_4 x12 h_11) fun x13 h_2 =>
  sAndH x13 h_2 (fun k_3 =>
  fifo_Queue_Put_c x2 (.int .i64 9) h_2 fun x16 h_10 => 
  k_3 x16 h_10) fun x17 h_3 =>
  sAndH x17 h_3 (fun k_2 =>
  fifo_Queue_Put_c x2 (.int .i64 9) h_3 fun x20 h_9 => 
  sNot x20 fun x21 =>
  k_2 x21 h_9) fun x22 h_4 =>
  sAndH x22 h_4 (fun k_1 =>
  fifo_Queue_Lost_c x2 h_4 fun x25 h_8 => 
  sEq x25 (.int .i64 2) fun x26 =>
  k_1 x26 h_8) fun x27 h_5 =>
  sAndH x27 h_5 (fun k =>
  fifo_New_c (.int .i64 0) (.int .i64 1) h_5 fun x29 h_7 => 
  sEqlNil x29 fun x30 =>
  k x30 h_7) fun x31 h_6 =>
  R x31 h_6
set_option maxRecDepth 100000 in
theorem betonylaw07_awake_runs {h : Heap} {R : Value → Heap → Prop} (H : betonylaw07_awake_S  h R) : betonylaw07_awake_c  h R := by
  unfold betonylaw07_awake_S at H
  refine runs_of (b := ⟨#[undef, undef, undef, undef, undef, undef, undef, undef, undef, undef, undef, undef, undef, undef, undef, undef, undef, undef, undef, undef, undef, undef, undef, undef, undef, undef, undef, undef, undef, undef, undef, undef], []⟩) Try.call37 Try.func37 rfl (by kernel_rfl) (fun w0 HA => ?_)
  refine wp_seq ?_
  refine lwp_list ?_
  refine ls_assign (x := (.bool false)) (by kernel_rfl) (by kernel_rfl) ?_
  refine ls_nil ?_
  refine then_normal ?_
  refine fr_eq (b := ⟨#[(.bool false), undef, undef, undef, undef, undef, undef, undef, undef, undef, undef, undef, undef, undef, undef, undef, undef, undef, undef, undef, undef, undef, undef, undef, undef, undef, undef, undef, undef, undef, undef, undef], []⟩) (by kernel_rfl) ?_
  refine wp_seq ?_
  refine lwp_list ?_
  refine ls_d (d := some 2) (by kernel_rfl) (by kernel_rfl) HA (d_call (by kernel_rfl) (by kernel_rfl) H) (fun x2 h w H HA => ?_)
  refine ls_assign (x := x2) (by kernel_rfl) (by kernel_rfl) ?_
  refine ls_nil ?_
  refine then_normal ?_
  refine fr_eq (b := ⟨#[(.bool false), x2, x2, undef, undef, undef, undef, undef, undef, undef, undef, undef, undef, undef, undef, undef, undef, undef, undef, undef, undef, undef, undef, undef, undef, undef, undef, undef, undef, undef, undef, undef], []⟩) (by kernel_rfl) ?_
  refine wp_seq ?_
  refine lwp_list ?_
  refine ls_move (x := x2) (by kernel_rfl) (by kernel_rfl) ?_
  refine ls_p (d := some 4) (by kernel_rfl) (by kernel_rfl) (p_neqNil Try.underlying67 (by kernel_rfl) (by kernel_rfl) H) (fun x4 H => ?_)
  refine ls_move (x := x4) (by kernel_rfl) (by kernel_rfl) ?_
  refine ls_andh [(), (), ()] (fun K a w => ∃ (D : Nat → Value) (x8 : Value) (h_1 : Heap), a = ⟨#[(.bool false), x2, x2, x2, x4, x4, (D 0), (D 1), x8, undef, undef, undef, undef, undef, undef, undef, undef, undef, undef, undef, undef, undef, undef, undef, undef, undef, undef, undef, undef, undef, undef, undef], []⟩ ∧ At w0 w h_1 ∧ K x8 h_1) H (fun hb_5 H => ?_) (fun hb_5 H => ?_) ?_
  · refine ls_move (x := x2) (by rw [hb_5]; kernel_rfl) (by kernel_rfl) ?_
    refine ls_d (d := some 7) (by kernel_rfl) (by rw [hb_5]; kernel_rfl) HA (d_call (by kernel_rfl) (by kernel_rfl) H) (fun x7 h_12 w_12 H HA_12 => ?_)
    refine ls_pick_t (x := x7) (by kernel_rfl) (by rw [hb_5]; kernel_rfl) (by kernel_rfl) ?_
    refine ls_nil ?_
    refine then_normal ?_
    exact ⟨(fun i => ([x2, x7]).getD i undef), x7, h_12, by kernel_rfl, HA_12, H⟩
  · refine ls_skip (d := some 6) (by kernel_rfl) (by rw [hb_5]; kernel_rfl) ?_
    refine ls_skip (d := some 7) (by kernel_rfl) (by rw [hb_5]; kernel_rfl) ?_
    refine ls_pick_f (y := (.bool false)) (by kernel_rfl) (by rw [hb_5]; kernel_rfl) (by kernel_rfl) ?_
    refine ls_nil ?_
    refine then_normal ?_
    exact ⟨(fun i => ([undef, undef]).getD i undef), (.bool false), h, by kernel_rfl, HA, H⟩
  · rintro _ w_1 ⟨D, x8, h_1, rfl, HA_1, H⟩
    refine ls_move (x := x8) (by kernel_rfl) (by kernel_rfl) ?_
    refine ls_andh [(), (), (), ()] (fun K a w => ∃ (D_1 : Nat → Value) (x13 : Value) (h_2 : Heap), a = ⟨#[(.bool false), x2, x2, x2, x4, x4, (D 0), (D 1), x8, x8, (D_1 0), (D_1 1), (D_1 2), x13, undef, undef, undef, undef, undef, undef, undef, undef, undef, undef, undef, undef, undef, undef, undef, undef, undef, undef], []⟩ ∧ At w0 w h_2 ∧ K x13 h_2) H (fun hb_4 H => ?_) (fun hb_4 H => ?_) ?_
    · refine ls_move (x := x2) (by rw [hb_4]; kernel_rfl) (by kernel_rfl) ?_
      refine ls_d (d := some 11) (by kernel_rfl) (by rw [hb_4]; kernel_rfl) HA_1 (d_call (by kernel_rfl) (by kernel_rfl) H) (fun x11 h_11 w_11 H HA_11 => ?_)
      refine ls_p (d := some 12) (by kernel_rfl) (by rw [hb_4]; kernel_rfl) (p_not (by kernel_rfl) H) (fun x12 H => ?_)
      refine ls_pick_t (x := x12) (by kernel_rfl) (by rw [hb_4]; kernel_rfl) (by kernel_rfl) ?_
      refine ls_nil ?_
      refine then_normal ?_
      exact ⟨(fun i => ([x2, x11, x12]).getD i undef), x12, h_11, by kernel_rfl, HA_11, H⟩
    · refine ls_skip (d := some 10) (by kernel_rfl) (by rw [hb_4]; kernel_rfl) ?_
      refine ls_skip (d := some 11) (by kernel_rfl) (by rw [hb_4]; kernel_rfl) ?_
      refine ls_skip (d := some 12) (by kernel_rfl) (by rw [hb_4]; kernel_rfl) ?_
      refine ls_pick_f (y := (.bool false)) (by kernel_rfl) (by rw [hb_4]; kernel_rfl) (by kernel_rfl) ?_
      refine ls_nil ?_
      refine then_normal ?_
      exact ⟨(fun i => ([undef, undef, undef]).getD i undef), (.bool false), h_1, by kernel_rfl, HA_1, H⟩
    · rintro _ w_2 ⟨D_1, x13, h_2, rfl, HA_2, H⟩
      refine ls_move (x := x13) (by kernel_rfl) (by kernel_rfl) ?_
      refine ls_andh [(), (), ()] (fun K a w => ∃ (D_2 : Nat → Value) (x17 : Value) (h_3 : Heap), a = ⟨#[(.bool false), x2, x2, x2, x4, x4, (D 0), (D 1), x8, x8, (D_1 0), (D_1 1), (D_1 2), x13, x13, (D_2 0), (D_2 1), x17, undef, undef, undef, undef, undef, undef, undef, undef, undef, undef, undef, undef, undef, undef], []⟩ ∧ At w0 w h_3 ∧ K x17 h_3) H (fun hb_3 H => ?_) (fun hb_3 H => ?_) ?_
      · refine ls_move (x := x2) (by rw [hb_3]; kernel_rfl) (by kernel_rfl) ?_
        refine ls_d (d := some 16) (by kernel_rfl) (by rw [hb_3]; kernel_rfl) HA_2 (d_call (by kernel_rfl) (by kernel_rfl) H) (fun x16 h_10 w_10 H HA_10 => ?_)
        refine ls_pick_t (x := x16) (by kernel_rfl) (by rw [hb_3]; kernel_rfl) (by kernel_rfl) ?_
        refine ls_nil ?_
        refine then_normal ?_
        exact ⟨(fun i => ([x2, x16]).getD i undef), x16, h_10, by kernel_rfl, HA_10, H⟩
      · refine ls_skip (d := some 15) (by kernel_rfl) (by rw [hb_3]; kernel_rfl) ?_
        refine ls_skip (d := some 16) (by kernel_rfl) (by rw [hb_3]; kernel_rfl) ?_
        refine ls_pick_f (y := (.bool false)) (by kernel_rfl) (by rw [hb_3]; kernel_rfl) (by kernel_rfl) ?_
        refine ls_nil ?_
        refine then_normal ?_
        exact ⟨(fun i => ([undef, undef]).getD i undef), (.bool false), h_2, by kernel_rfl, HA_2, H⟩
      · rintro _ w_3 ⟨D_2, x17, h_3, rfl, HA_3, H⟩
        refine ls_move (x := x17) (by kernel_rfl) (by kernel_rfl) ?_
        refine ls_andh [(), (), (), ()] (fun K a w => ∃ (D_3 : Nat → Value) (x22 : Value) (h_4 : Heap), a = ⟨#[(.bool false), x2, x2, x2, x4, x4, (D 0), (D 1), x8, x8, (D_1 0), (D_1 1), (D_1 2), x13, x13, (D_2 0), (D_2 1), x17, x17, (D_3 0), (D_3 1), (D_3 2), x22, undef, undef, undef, undef, undef, undef, undef, undef, undef], []⟩ ∧ At w0 w h_4 ∧ K x22 h_4) H (fun hb_2 H => ?_) (fun hb_2 H => ?_) ?_
        · refine ls_move (x := x2) (by rw [hb_2]; kernel_rfl) (by kernel_rfl) ?_
          refine ls_d (d := some 20) (by kernel_rfl) (by rw [hb_2]; kernel_rfl) HA_3 (d_call (by kernel_rfl) (by kernel_rfl) H) (fun x20 h_9 w_9 H HA_9 => ?_)
          refine ls_p (d := some 21) (by kernel_rfl) (by rw [hb_2]; kernel_rfl) (p_not (by kernel_rfl) H) (fun x21 H => ?_)
          refine ls_pick_t (x := x21) (by kernel_rfl) (by rw [hb_2]; kernel_rfl) (by kernel_rfl) ?_
          refine ls_nil ?_
          refine then_normal ?_
          exact ⟨(fun i => ([x2, x20, x21]).getD i undef), x21, h_9, by kernel_rfl, HA_9, H⟩
        · refine ls_skip (d := some 19) (by kernel_rfl) (by rw [hb_2]; kernel_rfl) ?_
          refine ls_skip (d := some 20) (by kernel_rfl) (by rw [hb_2]; kernel_rfl) ?_
          refine ls_skip (d := some 21) (by kernel_rfl) (by rw [hb_2]; kernel_rfl) ?_
          refine ls_pick_f (y := (.bool false)) (by kernel_rfl) (by rw [hb_2]; kernel_rfl) (by kernel_rfl) ?_
          refine ls_nil ?_
          refine then_normal ?_
          exact ⟨(fun i => ([undef, undef, undef]).getD i undef), (.bool false), h_3, by kernel_rfl, HA_3, H⟩
        · rintro _ w_4 ⟨D_3, x22, h_4, rfl, HA_4, H⟩
          refine ls_move (x := x22) (by kernel_rfl) (by kernel_rfl) ?_
          refine ls_andh [(), (), (), ()] (fun K a w => ∃ (D_4 : Nat → Value) (x27 : Value) (h_5 : Heap), a = ⟨#[(.bool false), x2, x2, x2, x4, x4, (D 0), (D 1), x8, x8, (D_1 0), (D_1 1), (D_1 2), x13, x13, (D_2 0), (D_2 1), x17, x17, (D_3 0), (D_3 1), (D_3 2), x22, x22, (D_4 0), (D_4 1), (D_4 2), x27, undef, undef, undef, undef], []⟩ ∧ At w0 w h_5 ∧ K x27 h_5) H (fun hb_1 H => ?_) (fun hb_1 H => ?_) ?_
          · refine ls_move (x := x2) (by rw [hb_1]; kernel_rfl) (by kernel_rfl) ?_
            refine ls_d (d := some 25) (by kernel_rfl) (by rw [hb_1]; kernel_rfl) HA_4 (d_call (by kernel_rfl) (by kernel_rfl) H) (fun x25 h_8 w_8 H HA_8 => ?_)
            refine ls_p (d := some 26) (by kernel_rfl) (by rw [hb_1]; kernel_rfl) (p_sEq (by kernel_rfl) (by kernel_rfl) H) (fun x26 H => ?_)
            refine ls_pick_t (x := x26) (by kernel_rfl) (by rw [hb_1]; kernel_rfl) (by kernel_rfl) ?_
            refine ls_nil ?_
            refine then_normal ?_
            exact ⟨(fun i => ([x2, x25, x26]).getD i undef), x26, h_8, by kernel_rfl, HA_8, H⟩
          · refine ls_skip (d := some 24) (by kernel_rfl) (by rw [hb_1]; kernel_rfl) ?_
            refine ls_skip (d := some 25) (by kernel_rfl) (by rw [hb_1]; kernel_rfl) ?_
            refine ls_skip (d := some 26) (by kernel_rfl) (by rw [hb_1]; kernel_rfl) ?_
            refine ls_pick_f (y := (.bool false)) (by kernel_rfl) (by rw [hb_1]; kernel_rfl) (by kernel_rfl) ?_
            refine ls_nil ?_
            refine then_normal ?_
            exact ⟨(fun i => ([undef, undef, undef]).getD i undef), (.bool false), h_4, by kernel_rfl, HA_4, H⟩
          · rintro _ w_5 ⟨D_4, x27, h_5, rfl, HA_5, H⟩
            refine ls_move (x := x27) (by kernel_rfl) (by kernel_rfl) ?_
            refine ls_andh [(), (), ()] (fun K a w => ∃ (D_5 : Nat → Value) (x31 : Value) (h_6 : Heap), a = ⟨#[(.bool false), x2, x2, x2, x4, x4, (D 0), (D 1), x8, x8, (D_1 0), (D_1 1), (D_1 2), x13, x13, (D_2 0), (D_2 1), x17, x17, (D_3 0), (D_3 1), (D_3 2), x22, x22, (D_4 0), (D_4 1), (D_4 2), x27, x27, (D_5 0), (D_5 1), x31], []⟩ ∧ At w0 w h_6 ∧ K x31 h_6) H (fun hb H => ?_) (fun hb H => ?_) ?_
            · refine ls_d (d := some 29) (by kernel_rfl) (by rw [hb]; kernel_rfl) HA_5 (d_call (by kernel_rfl) (by kernel_rfl) H) (fun x29 h_7 w_7 H HA_7 => ?_)
              refine ls_p (d := some 30) (by kernel_rfl) (by rw [hb]; kernel_rfl) (p_eqlNil Try.underlying67 (by kernel_rfl) (by kernel_rfl) H) (fun x30 H => ?_)
              refine ls_pick_t (x := x30) (by kernel_rfl) (by rw [hb]; kernel_rfl) (by kernel_rfl) ?_
              refine ls_nil ?_
              refine then_normal ?_
              exact ⟨(fun i => ([x29, x30]).getD i undef), x30, h_7, by kernel_rfl, HA_7, H⟩
            · refine ls_skip (d := some 29) (by kernel_rfl) (by rw [hb]; kernel_rfl) ?_
              refine ls_skip (d := some 30) (by kernel_rfl) (by rw [hb]; kernel_rfl) ?_
              refine ls_pick_f (y := (.bool false)) (by kernel_rfl) (by rw [hb]; kernel_rfl) (by kernel_rfl) ?_
              refine ls_nil ?_
              refine then_normal ?_
              exact ⟨(fun i => ([undef, undef]).getD i undef), (.bool false), h_5, by kernel_rfl, HA_5, H⟩
            · rintro _ w_6 ⟨D_5, x31, h_6, rfl, HA_6, H⟩
              refine ls_assign (x := x31) (by kernel_rfl) (by kernel_rfl) ?_
              refine ls_nil ?_
              refine then_normal ?_
              refine fr_eq (b := ⟨#[x31, x2, x2, x2, x4, x4, (D 0), (D 1), x8, x8, (D_1 0), (D_1 1), (D_1 2), x13, x13, (D_2 0), (D_2 1), x17, x17, (D_3 0), (D_3 1), (D_3 2), x22, x22, (D_4 0), (D_4 1), (D_4 2), x27, x27, (D_5 0), (D_5 1), x31], []⟩) (by kernel_rfl) ?_
              refine wp_ret ?_
              exact end1 (Try.results37) (by kernel_rfl) (by kernel_rfl) HA_6 H _ (.inr rfl)

end Go.Proofs.Ytecoejjpdogklaa
