/- The shallow reading of one function, and that the function does it. Written by a program. -/
import Derived.Test.YtecoejjpdogklaaFnC
set_option linter.unusedVariables false
namespace Go.Proofs.Ytecoejjpdogklaa
open Go Go.HW

def betonylaw20_awake_S (h : Heap) (R : Value → Heap → Prop) : Prop :=
  patience_New_c (.int .i64 3) (.int .i64 2) (.int .i64 10) (.int .i64 0) h fun x3 h => 
  sEqlNil x3 fun x5 =>
  sOrH x5 h (fun k_2 =>
  patience_Wait_Done_c x3 h fun x8 h_10 => 
  k_2 x8 h_10) fun x9 h_1 =>
  sIf x9 (R (.bool false) h_1) (patience_Wait_Come_c x3 (.int .i64 1) h_1 fun x11 h_2 => 
  patience_Wait_Tick_c x3 h_2 fun x13 h_3 => 
  patience_Wait_Done_c x3 h_3 fun x15 h_4 => 
  patience_Wait_Tick_c x3 h_4 fun x17 h_5 => 
  sNot x15 fun x19 =>
  sAndH x19 h_5 (fun k_1 =>
  patience_Wait_Done_c x3 h_5 fun x22 h_9 => 
  k_1 x22 h_9) fun x23 h_6 =>
  sAndH x23 h_6 (fun k =>
  patience_Wait_Count_c x3 h_6 fun x26 h_8 => 
  sEq x26 (.int .i64 1) fun x27 =>
  k x27 h_8) fun x28 h_7 =>
  R x28 h_7)
set_option maxRecDepth 100000 in
theorem betonylaw20_awake_runs {h : Heap} {R : Value → Heap → Prop} (H : betonylaw20_awake_S  h R) : betonylaw20_awake_c  h R := by
  unfold betonylaw20_awake_S at H
  refine runs_of (b := ⟨#[undef, undef, undef, undef, undef, undef, undef, undef, undef, undef, undef, undef, undef, undef, undef, undef, undef, undef, undef, undef, undef, undef, undef, undef, undef, undef, undef, undef, undef], []⟩) Try.call14 Try.func14 rfl (by kernel_rfl) (fun w0 HA => ?_)
  refine wp_seq ?_
  refine lwp_list ?_
  refine ls_assign (x := (.bool false)) (by kernel_rfl) (by kernel_rfl) ?_
  refine ls_nil ?_
  refine then_normal ?_
  refine fr_eq (b := ⟨#[(.bool false), undef, undef, undef, undef, undef, undef, undef, undef, undef, undef, undef, undef, undef, undef, undef, undef, undef, undef, undef, undef, undef, undef, undef, undef, undef, undef, undef, undef], []⟩) (by kernel_rfl) ?_
  refine wp_seq ?_
  refine lwp_list ?_
  refine ls_d (d := some 3) (by kernel_rfl) (by kernel_rfl) HA (d_call (by kernel_rfl) (by kernel_rfl) H) (fun x3 h w H HA => ?_)
  refine ls_assign (x := x3) (by kernel_rfl) (by kernel_rfl) ?_
  refine ls_nil ?_
  refine then_normal ?_
  refine fr_eq (b := ⟨#[(.bool false), x3, undef, x3, undef, undef, undef, undef, undef, undef, undef, undef, undef, undef, undef, undef, undef, undef, undef, undef, undef, undef, undef, undef, undef, undef, undef, undef, undef], []⟩) (by kernel_rfl) ?_
  refine wp_seq ?_
  refine wp_seq ?_
  refine lwp_list ?_
  refine ls_move (x := x3) (by kernel_rfl) (by kernel_rfl) ?_
  refine ls_p (d := some 5) (by kernel_rfl) (by kernel_rfl) (p_eqlNil Try.underlying24 (by kernel_rfl) (by kernel_rfl) H) (fun x5 H => ?_)
  refine ls_move (x := x5) (by kernel_rfl) (by kernel_rfl) ?_
  refine ls_orh [(), (), ()] (fun K a w => ∃ (D : Nat → Value) (x9 : Value) (h_1 : Heap), a = ⟨#[(.bool false), x3, undef, x3, x3, x5, x5, (D 0), (D 1), x9, undef, undef, undef, undef, undef, undef, undef, undef, undef, undef, undef, undef, undef, undef, undef, undef, undef, undef, undef], []⟩ ∧ At w0 w h_1 ∧ K x9 h_1) H (fun hb_2 H => ?_) (fun hb_2 H => ?_) ?_
  · refine ls_move (x := x3) (by rw [hb_2]; kernel_rfl) (by kernel_rfl) ?_
    refine ls_d (d := some 8) (by kernel_rfl) (by rw [hb_2]; kernel_rfl) HA (d_call (by kernel_rfl) (by kernel_rfl) H) (fun x8 h_10 w_10 H HA_10 => ?_)
    refine ls_pick_f (y := x8) (by kernel_rfl) (by rw [hb_2]; kernel_rfl) (by kernel_rfl) ?_
    refine ls_nil ?_
    refine then_normal ?_
    exact ⟨(fun i => ([x3, x8]).getD i undef), x8, h_10, by kernel_rfl, HA_10, H⟩
  · refine ls_skip (d := some 7) (by kernel_rfl) (by rw [hb_2]; kernel_rfl) ?_
    refine ls_skip (d := some 8) (by kernel_rfl) (by rw [hb_2]; kernel_rfl) ?_
    refine ls_pick_t (x := (.bool true)) (by kernel_rfl) (by rw [hb_2]; kernel_rfl) (by kernel_rfl) ?_
    refine ls_nil ?_
    refine then_normal ?_
    exact ⟨(fun i => ([undef, undef]).getD i undef), (.bool true), h, by kernel_rfl, HA, H⟩
  · rintro _ w_1 ⟨D, x9, h_1, rfl, HA_1, H⟩
    refine ls_nil ?_
    refine then_normal ?_
    refine fr_eq (b := ⟨#[(.bool false), x3, undef, x3, x3, x5, x5, (D 0), (D 1), x9, undef, undef, undef, undef, undef, undef, undef, undef, undef, undef, undef, undef, undef, undef, undef, undef, undef, undef, undef], []⟩) (by kernel_rfl) ?_
    refine wp_if rfl H (fun H => ?_) (fun H => ?_)
    · refine wp_seq ?_
      refine lwp_list ?_
      refine ls_assign (x := (.bool false)) (by kernel_rfl) (by kernel_rfl) ?_
      refine ls_nil ?_
      refine then_normal ?_
      refine fr_eq (b := ⟨#[(.bool false), x3, undef, x3, x3, x5, x5, (D 0), (D 1), x9, undef, undef, undef, undef, undef, undef, undef, undef, undef, undef, undef, undef, undef, undef, undef, undef, undef, undef, undef], []⟩) (by kernel_rfl) ?_
      refine wp_ret ?_
      refine then_ret ?_
      exact end1 (Try.results14) (by kernel_rfl) (by kernel_rfl) HA_1 H _ (.inr rfl)
    · refine wp_skip ?_
      refine then_normal ?_
      refine fr_eq (b := ⟨#[(.bool false), x3, undef, x3, x3, x5, x5, (D 0), (D 1), x9, undef, undef, undef, undef, undef, undef, undef, undef, undef, undef, undef, undef, undef, undef, undef, undef, undef, undef, undef], []⟩) (by kernel_rfl) ?_
      refine wp_seq ?_
      refine lwp_list ?_
      refine ls_move (x := x3) (by kernel_rfl) (by kernel_rfl) ?_
      refine ls_d (d := some 11) (by kernel_rfl) (by kernel_rfl) HA_1 (d_call (by kernel_rfl) (by kernel_rfl) H) (fun x11 h_2 w_2 H HA_2 => ?_)
      refine ls_nil ?_
      refine then_normal ?_
      refine fr_eq (b := ⟨#[(.bool false), x3, undef, x3, x3, x5, x5, (D 0), (D 1), x9, x3, x11, undef, undef, undef, undef, undef, undef, undef, undef, undef, undef, undef, undef, undef, undef, undef, undef, undef], []⟩) (by kernel_rfl) ?_
      refine wp_seq ?_
      refine lwp_list ?_
      refine ls_move (x := x3) (by kernel_rfl) (by kernel_rfl) ?_
      refine ls_d (d := some 13) (by kernel_rfl) (by kernel_rfl) HA_2 (d_call (by kernel_rfl) (by kernel_rfl) H) (fun x13 h_3 w_3 H HA_3 => ?_)
      refine ls_nil ?_
      refine then_normal ?_
      refine fr_eq (b := ⟨#[(.bool false), x3, undef, x3, x3, x5, x5, (D 0), (D 1), x9, x3, x11, x3, x13, undef, undef, undef, undef, undef, undef, undef, undef, undef, undef, undef, undef, undef, undef, undef], []⟩) (by kernel_rfl) ?_
      refine wp_seq ?_
      refine lwp_list ?_
      refine ls_move (x := x3) (by kernel_rfl) (by kernel_rfl) ?_
      refine ls_d (d := some 15) (by kernel_rfl) (by kernel_rfl) HA_3 (d_call (by kernel_rfl) (by kernel_rfl) H) (fun x15 h_4 w_4 H HA_4 => ?_)
      refine ls_assign (x := x15) (by kernel_rfl) (by kernel_rfl) ?_
      refine ls_nil ?_
      refine then_normal ?_
      refine fr_eq (b := ⟨#[(.bool false), x3, x15, x3, x3, x5, x5, (D 0), (D 1), x9, x3, x11, x3, x13, x3, x15, undef, undef, undef, undef, undef, undef, undef, undef, undef, undef, undef, undef, undef], []⟩) (by kernel_rfl) ?_
      refine wp_seq ?_
      refine lwp_list ?_
      refine ls_move (x := x3) (by kernel_rfl) (by kernel_rfl) ?_
      refine ls_d (d := some 17) (by kernel_rfl) (by kernel_rfl) HA_4 (d_call (by kernel_rfl) (by kernel_rfl) H) (fun x17 h_5 w_5 H HA_5 => ?_)
      refine ls_nil ?_
      refine then_normal ?_
      refine fr_eq (b := ⟨#[(.bool false), x3, x15, x3, x3, x5, x5, (D 0), (D 1), x9, x3, x11, x3, x13, x3, x15, x3, x17, undef, undef, undef, undef, undef, undef, undef, undef, undef, undef, undef], []⟩) (by kernel_rfl) ?_
      refine wp_seq ?_
      refine lwp_list ?_
      refine ls_move (x := x15) (by kernel_rfl) (by kernel_rfl) ?_
      refine ls_p (d := some 19) (by kernel_rfl) (by kernel_rfl) (p_not (by kernel_rfl) H) (fun x19 H => ?_)
      refine ls_move (x := x19) (by kernel_rfl) (by kernel_rfl) ?_
      refine ls_andh [(), (), ()] (fun K a w => ∃ (D_1 : Nat → Value) (x23 : Value) (h_6 : Heap), a = ⟨#[(.bool false), x3, x15, x3, x3, x5, x5, (D 0), (D 1), x9, x3, x11, x3, x13, x3, x15, x3, x17, x15, x19, x19, (D_1 0), (D_1 1), x23, undef, undef, undef, undef, undef], []⟩ ∧ At w0 w h_6 ∧ K x23 h_6) H (fun hb_1 H => ?_) (fun hb_1 H => ?_) ?_
      · refine ls_move (x := x3) (by rw [hb_1]; kernel_rfl) (by kernel_rfl) ?_
        refine ls_d (d := some 22) (by kernel_rfl) (by rw [hb_1]; kernel_rfl) HA_5 (d_call (by kernel_rfl) (by kernel_rfl) H) (fun x22 h_9 w_9 H HA_9 => ?_)
        refine ls_pick_t (x := x22) (by kernel_rfl) (by rw [hb_1]; kernel_rfl) (by kernel_rfl) ?_
        refine ls_nil ?_
        refine then_normal ?_
        exact ⟨(fun i => ([x3, x22]).getD i undef), x22, h_9, by kernel_rfl, HA_9, H⟩
      · refine ls_skip (d := some 21) (by kernel_rfl) (by rw [hb_1]; kernel_rfl) ?_
        refine ls_skip (d := some 22) (by kernel_rfl) (by rw [hb_1]; kernel_rfl) ?_
        refine ls_pick_f (y := (.bool false)) (by kernel_rfl) (by rw [hb_1]; kernel_rfl) (by kernel_rfl) ?_
        refine ls_nil ?_
        refine then_normal ?_
        exact ⟨(fun i => ([undef, undef]).getD i undef), (.bool false), h_5, by kernel_rfl, HA_5, H⟩
      · rintro _ w_6 ⟨D_1, x23, h_6, rfl, HA_6, H⟩
        refine ls_move (x := x23) (by kernel_rfl) (by kernel_rfl) ?_
        refine ls_andh [(), (), (), ()] (fun K a w => ∃ (D_2 : Nat → Value) (x28 : Value) (h_7 : Heap), a = ⟨#[(.bool false), x3, x15, x3, x3, x5, x5, (D 0), (D 1), x9, x3, x11, x3, x13, x3, x15, x3, x17, x15, x19, x19, (D_1 0), (D_1 1), x23, x23, (D_2 0), (D_2 1), (D_2 2), x28], []⟩ ∧ At w0 w h_7 ∧ K x28 h_7) H (fun hb H => ?_) (fun hb H => ?_) ?_
        · refine ls_move (x := x3) (by rw [hb]; kernel_rfl) (by kernel_rfl) ?_
          refine ls_d (d := some 26) (by kernel_rfl) (by rw [hb]; kernel_rfl) HA_6 (d_call (by kernel_rfl) (by kernel_rfl) H) (fun x26 h_8 w_8 H HA_8 => ?_)
          refine ls_p (d := some 27) (by kernel_rfl) (by rw [hb]; kernel_rfl) (p_sEq (by kernel_rfl) (by kernel_rfl) H) (fun x27 H => ?_)
          refine ls_pick_t (x := x27) (by kernel_rfl) (by rw [hb]; kernel_rfl) (by kernel_rfl) ?_
          refine ls_nil ?_
          refine then_normal ?_
          exact ⟨(fun i => ([x3, x26, x27]).getD i undef), x27, h_8, by kernel_rfl, HA_8, H⟩
        · refine ls_skip (d := some 25) (by kernel_rfl) (by rw [hb]; kernel_rfl) ?_
          refine ls_skip (d := some 26) (by kernel_rfl) (by rw [hb]; kernel_rfl) ?_
          refine ls_skip (d := some 27) (by kernel_rfl) (by rw [hb]; kernel_rfl) ?_
          refine ls_pick_f (y := (.bool false)) (by kernel_rfl) (by rw [hb]; kernel_rfl) (by kernel_rfl) ?_
          refine ls_nil ?_
          refine then_normal ?_
          exact ⟨(fun i => ([undef, undef, undef]).getD i undef), (.bool false), h_6, by kernel_rfl, HA_6, H⟩
        · rintro _ w_7 ⟨D_2, x28, h_7, rfl, HA_7, H⟩
          refine ls_assign (x := x28) (by kernel_rfl) (by kernel_rfl) ?_
          refine ls_nil ?_
          refine then_normal ?_
          refine fr_eq (b := ⟨#[x28, x3, x15, x3, x3, x5, x5, (D 0), (D 1), x9, x3, x11, x3, x13, x3, x15, x3, x17, x15, x19, x19, (D_1 0), (D_1 1), x23, x23, (D_2 0), (D_2 1), (D_2 2), x28], []⟩) (by kernel_rfl) ?_
          refine wp_ret ?_
          exact end1 (Try.results14) (by kernel_rfl) (by kernel_rfl) HA_7 H _ (.inr rfl)

end Go.Proofs.Ytecoejjpdogklaa
