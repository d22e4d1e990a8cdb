/- The shallow reading of one function, and that the function does it. Written by a program. -/
import Derived.Test.YthhpieidlpjbmaaFnC
set_option linter.unusedVariables false
namespace Go.Proofs.Ythhpieidlpjbmaa
open Go Go.HW

def rect_Right_S (x0 : Value) (h : Heap) (R : Value → Heap → Prop) : Prop :=
  sBox h x0 23 fun x1 h => 
  sOff x1 0 fun x3 =>
  sLd h x3 fun x4 =>
  rect_near_c x4 h fun x5 h_1 => 
  sAndH x5 h_1 (fun k_4 =>
  sOff x1 1 fun x7 =>
  sLd h_1 x7 fun x8 =>
  rect_near_c x8 h_1 fun x9 h_7 => 
  k_4 x9 h_7) fun x10 h_2 =>
  sAndH x10 h_2 (fun k_3 =>
  sOff x1 2 fun x12 =>
  sLd h_2 x12 fun x13 =>
  rect_near_c x13 h_2 fun x14 h_6 => 
  k_3 x14 h_6) fun x15 h_3 =>
  sAndH x15 h_3 (fun k_2 =>
  sOff x1 3 fun x17 =>
  sLd h_3 x17 fun x18 =>
  rect_near_c x18 h_3 fun x19 h_5 => 
  k_2 x19 h_5) fun x20 h_4 =>
  sAnd x20 (fun k_1 =>
  sOff x1 2 fun x22 =>
  sLd h_4 x22 fun x23 =>
  sGe x23 (.int .i64 0) fun x24 =>
  k_1 x24) fun x25 =>
  sAnd x25 (fun k =>
  sOff x1 3 fun x27 =>
  sLd h_4 x27 fun x28 =>
  sGe x28 (.int .i64 0) fun x29 =>
  k x29) fun x30 =>
  R x30 h_4
set_option maxRecDepth 100000 in
theorem rect_Right_runs {x0 : Value} {h : Heap} {R : Value → Heap → Prop} (H : rect_Right_S x0 h R) : rect_Right_c x0 h R := by
  unfold rect_Right_S at H
  refine runs_of (b := ⟨#[x0, undef, undef, undef, undef, undef, undef, undef, undef, undef, undef, undef, undef, undef, undef, undef, undef, undef, undef, undef, undef, undef, undef, undef, undef, undef, undef, undef, undef, undef, undef], []⟩) Try.call42 Try.func42 rfl (by kernel_rfl) (fun w0 HA => ?_)
  refine wp_seq ?_
  refine lwp_list ?_
  refine ls_d (d := some 1) (by kernel_rfl) (by kernel_rfl) HA (d_box (by kernel_rfl) H) (fun x1 h w H HA => ?_)
  refine ls_assign (x := (.bool false)) (by kernel_rfl) (by kernel_rfl) ?_
  refine ls_nil ?_
  refine then_normal ?_
  refine fr_eq (b := ⟨#[x0, x1, (.bool false), undef, undef, undef, undef, undef, undef, undef, undef, undef, undef, undef, undef, undef, undef, undef, undef, undef, undef, undef, undef, undef, undef, undef, undef, undef, undef, undef, undef], []⟩) (by kernel_rfl) ?_
  refine wp_seq ?_
  refine lwp_list ?_
  refine ls_p (d := some 3) (by kernel_rfl) (by kernel_rfl) (p_off Try.underlying23 rfl (fun w => ⟨_, Try.sizeOf3 w⟩) rfl (by kernel_rfl) H) (fun x3 H => ?_)
  refine ls_y (d := some 4) (by kernel_rfl) (by kernel_rfl) HA (y_ld Try.isAgg3 (by kernel_rfl) H) (fun x4 H => ?_)
  refine ls_d (d := some 5) (by kernel_rfl) (by kernel_rfl) HA (d_call (by kernel_rfl) (by kernel_rfl) H) (fun x5 h_1 w_1 H HA_1 => ?_)
  refine ls_move (x := x5) (by kernel_rfl) (by kernel_rfl) ?_
  refine ls_andh [(), (), (), ()] (fun K a w => ∃ (D : Nat → Value) (x10 : Value) (h_2 : Heap), a = ⟨#[x0, x1, (.bool false), x3, x4, x5, x5, (D 0), (D 1), (D 2), x10, undef, undef, undef, undef, undef, undef, undef, undef, undef, undef, undef, undef, undef, undef, undef, undef, undef, undef, undef, undef], []⟩ ∧ At w0 w h_2 ∧ K x10 h_2) H (fun hb_4 H => ?_) (fun hb_4 H => ?_) ?_
  · refine ls_p (d := some 7) (by kernel_rfl) (by rw [hb_4]; kernel_rfl) (p_off Try.underlying23 rfl (fun w => ⟨_, Try.sizeOf3 w⟩) rfl (by kernel_rfl) H) (fun x7 H => ?_)
    refine ls_y (d := some 8) (by kernel_rfl) (by rw [hb_4]; kernel_rfl) HA_1 (y_ld Try.isAgg3 (by kernel_rfl) H) (fun x8 H => ?_)
    refine ls_fr (b := ⟨#[x0, x1, (.bool false), x3, x4, x5, x5, x7, x8, undef, undef, undef, undef, undef, undef, undef, undef, undef, undef, undef, undef, undef, undef, undef, undef, undef, undef, undef, undef, undef, undef], []⟩) (by kernel_rfl) ?_
    refine ls_d (d := some 9) (by kernel_rfl) (by rw [hb_4]; kernel_rfl) HA_1 (d_call (by kernel_rfl) (by kernel_rfl) H) (fun x9 h_7 w_9 H HA_9 => ?_)
    refine ls_pick_t (x := x9) (by kernel_rfl) (by rw [hb_4]; kernel_rfl) (by kernel_rfl) ?_
    refine ls_nil ?_
    refine then_normal ?_
    exact ⟨(fun i => ([x7, x8, x9]).getD i undef), x9, h_7, by kernel_rfl, HA_9, H⟩
  · refine ls_skip (d := some 7) (by kernel_rfl) (by rw [hb_4]; kernel_rfl) ?_
    refine ls_skip (d := some 8) (by kernel_rfl) (by rw [hb_4]; kernel_rfl) ?_
    refine ls_fr (b := ⟨#[x0, x1, (.bool false), x3, x4, x5, x5, undef, undef, undef, undef, undef, undef, undef, undef, undef, undef, undef, undef, undef, undef, undef, undef, undef, undef, undef, undef, undef, undef, undef, undef], []⟩) (by kernel_rfl) ?_
    refine ls_skip (d := some 9) (by kernel_rfl) (by rw [hb_4]; kernel_rfl) ?_
    refine ls_pick_f (y := (.bool false)) (by kernel_rfl) (by rw [hb_4]; kernel_rfl) (by kernel_rfl) ?_
    refine ls_nil ?_
    refine then_normal ?_
    exact ⟨(fun i => ([undef, undef, undef]).getD i undef), (.bool false), h_1, by kernel_rfl, HA_1, H⟩
  · rintro _ w_2 ⟨D, x10, h_2, rfl, HA_2, H⟩
    refine ls_move (x := x10) (by kernel_rfl) (by kernel_rfl) ?_
    refine ls_andh [(), (), (), ()] (fun K a w => ∃ (D_1 : Nat → Value) (x15 : Value) (h_3 : Heap), a = ⟨#[x0, x1, (.bool false), x3, x4, x5, x5, (D 0), (D 1), (D 2), x10, x10, (D_1 0), (D_1 1), (D_1 2), x15, undef, undef, undef, undef, undef, undef, undef, undef, undef, undef, undef, undef, undef, undef, undef], []⟩ ∧ At w0 w h_3 ∧ K x15 h_3) H (fun hb_3 H => ?_) (fun hb_3 H => ?_) ?_
    · refine ls_p (d := some 12) (by kernel_rfl) (by rw [hb_3]; kernel_rfl) (p_off Try.underlying23 rfl (fun w => ⟨_, Try.sizeOf3 w⟩) rfl (by kernel_rfl) H) (fun x12 H => ?_)
      refine ls_y (d := some 13) (by kernel_rfl) (by rw [hb_3]; kernel_rfl) HA_2 (y_ld Try.isAgg3 (by kernel_rfl) H) (fun x13 H => ?_)
      refine ls_d (d := some 14) (by kernel_rfl) (by rw [hb_3]; kernel_rfl) HA_2 (d_call (by kernel_rfl) (by kernel_rfl) H) (fun x14 h_6 w_8 H HA_8 => ?_)
      refine ls_pick_t (x := x14) (by kernel_rfl) (by rw [hb_3]; kernel_rfl) (by kernel_rfl) ?_
      refine ls_nil ?_
      refine then_normal ?_
      exact ⟨(fun i => ([x12, x13, x14]).getD i undef), x14, h_6, by kernel_rfl, HA_8, H⟩
    · refine ls_skip (d := some 12) (by kernel_rfl) (by rw [hb_3]; kernel_rfl) ?_
      refine ls_skip (d := some 13) (by kernel_rfl) (by rw [hb_3]; kernel_rfl) ?_
      refine ls_skip (d := some 14) (by kernel_rfl) (by rw [hb_3]; kernel_rfl) ?_
      refine ls_pick_f (y := (.bool false)) (by kernel_rfl) (by rw [hb_3]; kernel_rfl) (by kernel_rfl) ?_
      refine ls_nil ?_
      refine then_normal ?_
      exact ⟨(fun i => ([undef, undef, undef]).getD i undef), (.bool false), h_2, by kernel_rfl, HA_2, H⟩
    · rintro _ w_3 ⟨D_1, x15, h_3, rfl, HA_3, H⟩
      refine ls_move (x := x15) (by kernel_rfl) (by kernel_rfl) ?_
      refine ls_andh [(), (), (), ()] (fun K a w => ∃ (D_2 : Nat → Value) (x20 : Value) (h_4 : Heap), a = ⟨#[x0, x1, (.bool false), x3, x4, x5, x5, (D 0), (D 1), (D 2), x10, x10, (D_1 0), (D_1 1), (D_1 2), x15, x15, (D_2 0), (D_2 1), (D_2 2), x20, undef, undef, undef, undef, undef, undef, undef, undef, undef, undef], []⟩ ∧ At w0 w h_4 ∧ K x20 h_4) H (fun hb_2 H => ?_) (fun hb_2 H => ?_) ?_
      · refine ls_p (d := some 17) (by kernel_rfl) (by rw [hb_2]; kernel_rfl) (p_off Try.underlying23 rfl (fun w => ⟨_, Try.sizeOf3 w⟩) rfl (by kernel_rfl) H) (fun x17 H => ?_)
        refine ls_y (d := some 18) (by kernel_rfl) (by rw [hb_2]; kernel_rfl) HA_3 (y_ld Try.isAgg3 (by kernel_rfl) H) (fun x18 H => ?_)
        refine ls_d (d := some 19) (by kernel_rfl) (by rw [hb_2]; kernel_rfl) HA_3 (d_call (by kernel_rfl) (by kernel_rfl) H) (fun x19 h_5 w_7 H HA_7 => ?_)
        refine ls_pick_t (x := x19) (by kernel_rfl) (by rw [hb_2]; kernel_rfl) (by kernel_rfl) ?_
        refine ls_nil ?_
        refine then_normal ?_
        exact ⟨(fun i => ([x17, x18, x19]).getD i undef), x19, h_5, by kernel_rfl, HA_7, H⟩
      · refine ls_skip (d := some 17) (by kernel_rfl) (by rw [hb_2]; kernel_rfl) ?_
        refine ls_skip (d := some 18) (by kernel_rfl) (by rw [hb_2]; kernel_rfl) ?_
        refine ls_skip (d := some 19) (by kernel_rfl) (by rw [hb_2]; kernel_rfl) ?_
        refine ls_pick_f (y := (.bool false)) (by kernel_rfl) (by rw [hb_2]; kernel_rfl) (by kernel_rfl) ?_
        refine ls_nil ?_
        refine then_normal ?_
        exact ⟨(fun i => ([undef, undef, undef]).getD i undef), (.bool false), h_3, by kernel_rfl, HA_3, H⟩
      · rintro _ w_4 ⟨D_2, x20, h_4, rfl, HA_4, H⟩
        refine ls_move (x := x20) (by kernel_rfl) (by kernel_rfl) ?_
        refine ls_and [(), (), (), ()] (fun K a w => ∃ (D_3 : Nat → Value) (x25 : Value), a = ⟨#[x0, x1, (.bool false), x3, x4, x5, x5, (D 0), (D 1), (D 2), x10, x10, (D_1 0), (D_1 1), (D_1 2), x15, x15, (D_2 0), (D_2 1), (D_2 2), x20, x20, (D_3 0), (D_3 1), (D_3 2), x25, undef, undef, undef, undef, undef], []⟩ ∧ At w0 w h_4 ∧ K x25) H (fun hb_1 H => ?_) (fun hb_1 H => ?_) ?_
        · refine ls_p (d := some 22) (by kernel_rfl) (by rw [hb_1]; kernel_rfl) (p_off Try.underlying23 rfl (fun w => ⟨_, Try.sizeOf3 w⟩) rfl (by kernel_rfl) H) (fun x22 H => ?_)
          refine ls_y (d := some 23) (by kernel_rfl) (by rw [hb_1]; kernel_rfl) HA_4 (y_ld Try.isAgg3 (by kernel_rfl) H) (fun x23 H => ?_)
          refine ls_p (d := some 24) (by kernel_rfl) (by rw [hb_1]; kernel_rfl) (p_sGe (by kernel_rfl) (by kernel_rfl) H) (fun x24 H => ?_)
          refine ls_pick_t (x := x24) (by kernel_rfl) (by rw [hb_1]; kernel_rfl) (by kernel_rfl) ?_
          refine ls_nil ?_
          refine then_normal ?_
          exact ⟨(fun i => ([x22, x23, x24]).getD i undef), x24, by kernel_rfl, HA_4, H⟩
        · refine ls_skip (d := some 22) (by kernel_rfl) (by rw [hb_1]; kernel_rfl) ?_
          refine ls_skip (d := some 23) (by kernel_rfl) (by rw [hb_1]; kernel_rfl) ?_
          refine ls_skip (d := some 24) (by kernel_rfl) (by rw [hb_1]; kernel_rfl) ?_
          refine ls_pick_f (y := (.bool false)) (by kernel_rfl) (by rw [hb_1]; kernel_rfl) (by kernel_rfl) ?_
          refine ls_nil ?_
          refine then_normal ?_
          exact ⟨(fun i => ([undef, undef, undef]).getD i undef), (.bool false), by kernel_rfl, HA_4, H⟩
        · rintro _ w_5 ⟨D_3, x25, rfl, HA_5, H⟩
          refine ls_move (x := x25) (by kernel_rfl) (by kernel_rfl) ?_
          refine ls_and [(), (), (), ()] (fun K a w => ∃ (D_4 : Nat → Value) (x30 : Value), a = ⟨#[x0, x1, (.bool false), x3, x4, x5, x5, (D 0), (D 1), (D 2), x10, x10, (D_1 0), (D_1 1), (D_1 2), x15, x15, (D_2 0), (D_2 1), (D_2 2), x20, x20, (D_3 0), (D_3 1), (D_3 2), x25, x25, (D_4 0), (D_4 1), (D_4 2), x30], []⟩ ∧ At w0 w h_4 ∧ K x30) H (fun hb H => ?_) (fun hb H => ?_) ?_
          · refine ls_p (d := some 27) (by kernel_rfl) (by rw [hb]; kernel_rfl) (p_off Try.underlying23 rfl (fun w => ⟨_, Try.sizeOf3 w⟩) rfl (by kernel_rfl) H) (fun x27 H => ?_)
            refine ls_y (d := some 28) (by kernel_rfl) (by rw [hb]; kernel_rfl) HA_5 (y_ld Try.isAgg3 (by kernel_rfl) H) (fun x28 H => ?_)
            refine ls_p (d := some 29) (by kernel_rfl) (by rw [hb]; kernel_rfl) (p_sGe (by kernel_rfl) (by kernel_rfl) H) (fun x29 H => ?_)
            refine ls_pick_t (x := x29) (by kernel_rfl) (by rw [hb]; kernel_rfl) (by kernel_rfl) ?_
            refine ls_nil ?_
            refine then_normal ?_
            exact ⟨(fun i => ([x27, x28, x29]).getD i undef), x29, by kernel_rfl, HA_5, H⟩
          · refine ls_skip (d := some 27) (by kernel_rfl) (by rw [hb]; kernel_rfl) ?_
            refine ls_skip (d := some 28) (by kernel_rfl) (by rw [hb]; kernel_rfl) ?_
            refine ls_skip (d := some 29) (by kernel_rfl) (by rw [hb]; kernel_rfl) ?_
            refine ls_pick_f (y := (.bool false)) (by kernel_rfl) (by rw [hb]; kernel_rfl) (by kernel_rfl) ?_
            refine ls_nil ?_
            refine then_normal ?_
            exact ⟨(fun i => ([undef, undef, undef]).getD i undef), (.bool false), by kernel_rfl, HA_5, H⟩
          · rintro _ w_6 ⟨D_4, x30, rfl, HA_6, H⟩
            refine ls_assign (x := x30) (by kernel_rfl) (by kernel_rfl) ?_
            refine ls_nil ?_
            refine then_normal ?_
            refine fr_eq (b := ⟨#[x0, x1, x30, x3, x4, x5, x5, (D 0), (D 1), (D 2), x10, x10, (D_1 0), (D_1 1), (D_1 2), x15, x15, (D_2 0), (D_2 1), (D_2 2), x20, x20, (D_3 0), (D_3 1), (D_3 2), x25, x25, (D_4 0), (D_4 1), (D_4 2), x30], []⟩) (by kernel_rfl) ?_
            refine wp_ret ?_
            exact end1 (Try.results42) (by kernel_rfl) (by kernel_rfl) HA_6 H _ (.inr rfl)

end Go.Proofs.Ythhpieidlpjbmaa
