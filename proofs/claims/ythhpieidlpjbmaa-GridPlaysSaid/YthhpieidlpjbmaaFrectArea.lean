/- The shallow reading of one function, and that the function does it. Written by a program. -/
import Derived.Test.YthhpieidlpjbmaaFnC
set_option linter.unusedVariables false
namespace Go.Proofs.Ythhpieidlpjbmaa
open Go Go.HW

def rect_Area_S (x0 : Value) (h : Heap) (R : Value → Heap → Prop) : Prop :=
  sBox h x0 23 fun x1 h => 
  sLdN h x1 4 fun x3 =>
  rect_Right_c x3 h fun x4 h_1 => 
  sNot x4 fun x5 =>
  sOrH x5 h_1 (fun k =>
  sLdN h_1 x1 4 fun x7 =>
  rect_Empty_c x7 h_1 fun x8 h_3 => 
  k x8 h_3) fun x9 h_2 =>
  sIf x9 (R (.int .i64 0) h_2) (sOff x1 2 fun x10 =>
  sLd h_2 x10 fun x11 =>
  sOff x1 3 fun x12 =>
  sLd h_2 x12 fun x13 =>
  sMul .i64 x11 x13 fun x14 =>
  R x14 h_2)
set_option maxRecDepth 100000 in
theorem rect_Area_runs {x0 : Value} {h : Heap} {R : Value → Heap → Prop} (H : rect_Area_S x0 h R) : rect_Area_c x0 h R := by
  unfold rect_Area_S at H
  refine runs_of (b := ⟨#[x0, undef, undef, undef, undef, undef, undef, undef, undef, undef, undef, undef, undef, undef, undef], []⟩) Try.call38 Try.func38 rfl (by kernel_rfl) (fun w0 HA => ?_)
  refine wp_seq ?_
  refine lwp_list ?_
  refine ls_d (d := some 1) (by kernel_rfl) (by kernel_rfl) HA (d_box (by kernel_rfl) H) (fun x1 h w H HA => ?_)
  refine ls_assign (x := (.int .i64 0)) (by kernel_rfl) (by kernel_rfl) ?_
  refine ls_nil ?_
  refine then_normal ?_
  refine fr_eq (b := ⟨#[x0, x1, (.int .i64 0), undef, undef, undef, undef, undef, undef, undef, undef, undef, undef, undef, undef], []⟩) (by kernel_rfl) ?_
  refine wp_seq ?_
  refine wp_seq ?_
  refine lwp_list ?_
  refine ls_y (d := some 3) (by kernel_rfl) (by kernel_rfl) HA (y_ldn Try.isAgg23 Try.sizeOf23 (by kernel_rfl) H) (fun x3 H => ?_)
  refine ls_d (d := some 4) (by kernel_rfl) (by kernel_rfl) HA (d_call (by kernel_rfl) (by kernel_rfl) H) (fun x4 h_1 w_1 H HA_1 => ?_)
  refine ls_p (d := some 5) (by kernel_rfl) (by kernel_rfl) (p_not (by kernel_rfl) H) (fun x5 H => ?_)
  refine ls_move (x := x5) (by kernel_rfl) (by kernel_rfl) ?_
  refine ls_orh [(), (), ()] (fun K a w => ∃ (D : Nat → Value) (x9 : Value) (h_2 : Heap), a = ⟨#[x0, x1, (.int .i64 0), x3, x4, x5, x5, (D 0), (D 1), x9, undef, undef, undef, undef, undef], []⟩ ∧ At w0 w h_2 ∧ K x9 h_2) H (fun hb H => ?_) (fun hb H => ?_) ?_
  · refine ls_y (d := some 7) (by kernel_rfl) (by rw [hb]; kernel_rfl) HA_1 (y_ldn Try.isAgg23 Try.sizeOf23 (by kernel_rfl) H) (fun x7 H => ?_)
    refine ls_d (d := some 8) (by kernel_rfl) (by rw [hb]; kernel_rfl) HA_1 (d_call (by kernel_rfl) (by kernel_rfl) H) (fun x8 h_3 w_3 H HA_3 => ?_)
    refine ls_fr (b := ⟨#[x0, x1, (.int .i64 0), x3, x4, x5, x5, x7, x8, undef, undef, undef, undef, undef, undef], []⟩) (by kernel_rfl) ?_
    refine ls_pick_f (y := x8) (by kernel_rfl) (by rw [hb]; kernel_rfl) (by kernel_rfl) ?_
    refine ls_nil ?_
    refine then_normal ?_
    exact ⟨(fun i => ([x7, x8]).getD i undef), x8, h_3, by kernel_rfl, HA_3, H⟩
  · refine ls_skip (d := some 7) (by kernel_rfl) (by rw [hb]; kernel_rfl) ?_
    refine ls_skip (d := some 8) (by kernel_rfl) (by rw [hb]; kernel_rfl) ?_
    refine ls_fr (b := ⟨#[x0, x1, (.int .i64 0), x3, x4, x5, x5, undef, undef, undef, undef, undef, undef, undef, undef], []⟩) (by kernel_rfl) ?_
    refine ls_pick_t (x := (.bool true)) (by kernel_rfl) (by rw [hb]; kernel_rfl) (by kernel_rfl) ?_
    refine ls_nil ?_
    refine then_normal ?_
    exact ⟨(fun i => ([undef, undef]).getD i undef), (.bool true), h_1, by kernel_rfl, HA_1, H⟩
  · rintro _ w_2 ⟨D, x9, h_2, rfl, HA_2, H⟩
    refine ls_nil ?_
    refine then_normal ?_
    refine fr_eq (b := ⟨#[x0, x1, (.int .i64 0), x3, x4, x5, x5, (D 0), (D 1), x9, undef, undef, undef, undef, undef], []⟩) (by kernel_rfl) ?_
    refine wp_if rfl H (fun H => ?_) (fun H => ?_)
    · refine wp_seq ?_
      refine lwp_list ?_
      refine ls_assign (x := (.int .i64 0)) (by kernel_rfl) (by kernel_rfl) ?_
      refine ls_nil ?_
      refine then_normal ?_
      refine fr_eq (b := ⟨#[x0, x1, (.int .i64 0), x3, x4, x5, x5, (D 0), (D 1), x9, undef, undef, undef, undef, undef], []⟩) (by kernel_rfl) ?_
      refine wp_ret ?_
      refine then_ret ?_
      exact end1 (Try.results38) (by kernel_rfl) (by kernel_rfl) HA_2 H _ (.inr rfl)
    · refine wp_skip ?_
      refine then_normal ?_
      refine fr_eq (b := ⟨#[x0, x1, (.int .i64 0), x3, x4, x5, x5, (D 0), (D 1), x9, undef, undef, undef, undef, undef], []⟩) (by kernel_rfl) ?_
      refine wp_seq ?_
      refine lwp_list ?_
      refine ls_p (d := some 10) (by kernel_rfl) (by kernel_rfl) (p_off Try.underlying23 rfl (fun w => ⟨_, Try.sizeOf3 w⟩) rfl (by kernel_rfl) H) (fun x10 H => ?_)
      refine ls_y (d := some 11) (by kernel_rfl) (by kernel_rfl) HA_2 (y_ld Try.isAgg3 (by kernel_rfl) H) (fun x11 H => ?_)
      refine ls_p (d := some 12) (by kernel_rfl) (by kernel_rfl) (p_off Try.underlying23 rfl (fun w => ⟨_, Try.sizeOf3 w⟩) rfl (by kernel_rfl) H) (fun x12 H => ?_)
      refine ls_y (d := some 13) (by kernel_rfl) (by kernel_rfl) HA_2 (y_ld Try.isAgg3 (by kernel_rfl) H) (fun x13 H => ?_)
      refine ls_p (d := some 14) (by kernel_rfl) (by kernel_rfl) (p_mul (by kernel_rfl) (by kernel_rfl) H) (fun x14 H => ?_)
      refine ls_assign (x := x14) (by kernel_rfl) (by kernel_rfl) ?_
      refine ls_nil ?_
      refine then_normal ?_
      refine fr_eq (b := ⟨#[x0, x1, x14, x3, x4, x5, x5, (D 0), (D 1), x9, x10, x11, x12, x13, x14], []⟩) (by kernel_rfl) ?_
      refine wp_ret ?_
      exact end1 (Try.results38) (by kernel_rfl) (by kernel_rfl) HA_2 H _ (.inr rfl)

end Go.Proofs.Ythhpieidlpjbmaa
