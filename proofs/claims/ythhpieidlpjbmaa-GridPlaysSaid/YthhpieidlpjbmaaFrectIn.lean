/- The shallow reading of one function, and that the function does it. Written by a program. -/
import Derived.Test.YthhpieidlpjbmaaFnC
set_option linter.unusedVariables false
namespace Go.Proofs.Ythhpieidlpjbmaa
open Go Go.HW

def rect_In_S (x0 x1 x2 : Value) (h : Heap) (R : Value → Heap → Prop) : Prop :=
  sBox h x0 23 fun x3 h => 
  sOff x3 0 fun x8 =>
  sLd h x8 fun x9 =>
  sOff x3 2 fun x10 =>
  sLd h x10 fun x11 =>
  rect_within_c x1 x9 x11 h fun x12 h_1 => 
  sAndH x12 h_1 (fun k =>
  sOff x3 1 fun x15 =>
  sLd h_1 x15 fun x16 =>
  sOff x3 3 fun x17 =>
  sLd h_1 x17 fun x18 =>
  rect_within_c x2 x16 x18 h_1 fun x19 h_3 => 
  k x19 h_3) fun x20 h_2 =>
  R x20 h_2
set_option maxRecDepth 100000 in
theorem rect_In_runs {x0 x1 x2 : Value} {h : Heap} {R : Value → Heap → Prop} (H : rect_In_S x0 x1 x2 h R) : rect_In_c x0 x1 x2 h R := by
  unfold rect_In_S at H
  refine runs_of (b := ⟨#[x0, x1, x2, undef, undef, undef, undef, undef, undef, undef, undef, undef, undef, undef, undef, undef, undef, undef, undef, undef, undef], []⟩) Try.call39 Try.func39 rfl (by kernel_rfl) (fun w0 HA => ?_)
  refine wp_seq ?_
  refine lwp_list ?_
  refine ls_d (d := some 3) (by kernel_rfl) (by kernel_rfl) HA (d_box (by kernel_rfl) H) (fun x3 h w H HA => ?_)
  refine ls_assign (x := (.bool false)) (by kernel_rfl) (by kernel_rfl) ?_
  refine ls_nil ?_
  refine then_normal ?_
  refine fr_eq (b := ⟨#[x0, x1, x2, x3, undef, undef, (.bool false), undef, undef, undef, undef, undef, undef, undef, undef, undef, undef, undef, undef, undef, undef], []⟩) (by kernel_rfl) ?_
  refine wp_seq ?_
  refine lwp_list ?_
  refine ls_move (x := x1) (by kernel_rfl) (by kernel_rfl) ?_
  refine ls_p (d := some 8) (by kernel_rfl) (by kernel_rfl) (p_off Try.underlying23 rfl (fun w => ⟨_, Try.sizeOf3 w⟩) rfl (by kernel_rfl) H) (fun x8 H => ?_)
  refine ls_y (d := some 9) (by kernel_rfl) (by kernel_rfl) HA (y_ld Try.isAgg3 (by kernel_rfl) H) (fun x9 H => ?_)
  refine ls_p (d := some 10) (by kernel_rfl) (by kernel_rfl) (p_off Try.underlying23 rfl (fun w => ⟨_, Try.sizeOf3 w⟩) rfl (by kernel_rfl) H) (fun x10 H => ?_)
  refine ls_y (d := some 11) (by kernel_rfl) (by kernel_rfl) HA (y_ld Try.isAgg3 (by kernel_rfl) H) (fun x11 H => ?_)
  refine ls_d (d := some 12) (by kernel_rfl) (by kernel_rfl) HA (d_call (by kernel_rfl) (by kernel_rfl) H) (fun x12 h_1 w_1 H HA_1 => ?_)
  refine ls_fr (b := ⟨#[x0, x1, x2, x3, undef, undef, (.bool false), x1, x8, x9, x10, x11, x12, undef, undef, undef, undef, undef, undef, undef, undef], []⟩) (by kernel_rfl) ?_
  refine ls_move (x := x12) (by kernel_rfl) (by kernel_rfl) ?_
  refine ls_andh [(), (), (), (), (), (), ()] (fun K a w => ∃ (D : Nat → Value) (x20 : Value) (h_2 : Heap), a = ⟨#[x0, x1, x2, x3, undef, undef, (.bool false), x1, x8, x9, x10, x11, x12, x12, (D 0), (D 1), (D 2), (D 3), (D 4), (D 5), x20], []⟩ ∧ At w0 w h_2 ∧ K x20 h_2) H (fun hb H => ?_) (fun hb H => ?_) ?_
  · refine ls_move (x := x2) (by rw [hb]; kernel_rfl) (by kernel_rfl) ?_
    refine ls_p (d := some 15) (by kernel_rfl) (by rw [hb]; kernel_rfl) (p_off Try.underlying23 rfl (fun w => ⟨_, Try.sizeOf3 w⟩) rfl (by kernel_rfl) H) (fun x15 H => ?_)
    refine ls_y (d := some 16) (by kernel_rfl) (by rw [hb]; kernel_rfl) HA_1 (y_ld Try.isAgg3 (by kernel_rfl) H) (fun x16 H => ?_)
    refine ls_p (d := some 17) (by kernel_rfl) (by rw [hb]; kernel_rfl) (p_off Try.underlying23 rfl (fun w => ⟨_, Try.sizeOf3 w⟩) rfl (by kernel_rfl) H) (fun x17 H => ?_)
    refine ls_y (d := some 18) (by kernel_rfl) (by rw [hb]; kernel_rfl) HA_1 (y_ld Try.isAgg3 (by kernel_rfl) H) (fun x18 H => ?_)
    refine ls_fr (b := ⟨#[x0, x1, x2, x3, undef, undef, (.bool false), x1, x8, x9, x10, x11, x12, x12, x2, x15, x16, x17, x18, undef, undef], []⟩) (by kernel_rfl) ?_
    refine ls_d (d := some 19) (by kernel_rfl) (by rw [hb]; kernel_rfl) HA_1 (d_call (by kernel_rfl) (by kernel_rfl) H) (fun x19 h_3 w_3 H HA_3 => ?_)
    refine ls_pick_t (x := x19) (by kernel_rfl) (by rw [hb]; kernel_rfl) (by kernel_rfl) ?_
    refine ls_nil ?_
    refine then_normal ?_
    exact ⟨(fun i => ([x2, x15, x16, x17, x18, x19]).getD i undef), x19, h_3, by kernel_rfl, HA_3, H⟩
  · refine ls_skip (d := some 14) (by kernel_rfl) (by rw [hb]; kernel_rfl) ?_
    refine ls_skip (d := some 15) (by kernel_rfl) (by rw [hb]; kernel_rfl) ?_
    refine ls_skip (d := some 16) (by kernel_rfl) (by rw [hb]; kernel_rfl) ?_
    refine ls_skip (d := some 17) (by kernel_rfl) (by rw [hb]; kernel_rfl) ?_
    refine ls_skip (d := some 18) (by kernel_rfl) (by rw [hb]; kernel_rfl) ?_
    refine ls_fr (b := ⟨#[x0, x1, x2, x3, undef, undef, (.bool false), x1, x8, x9, x10, x11, x12, x12, undef, undef, undef, undef, undef, undef, undef], []⟩) (by kernel_rfl) ?_
    refine ls_skip (d := some 19) (by kernel_rfl) (by rw [hb]; kernel_rfl) ?_
    refine ls_pick_f (y := (.bool false)) (by kernel_rfl) (by rw [hb]; kernel_rfl) (by kernel_rfl) ?_
    refine ls_nil ?_
    refine then_normal ?_
    exact ⟨(fun i => ([undef, undef, undef, undef, undef, undef]).getD i undef), (.bool false), h_1, by kernel_rfl, HA_1, H⟩
  · rintro _ w_2 ⟨D, x20, h_2, rfl, HA_2, H⟩
    refine ls_assign (x := x20) (by kernel_rfl) (by kernel_rfl) ?_
    refine ls_nil ?_
    refine then_normal ?_
    refine fr_eq (b := ⟨#[x0, x1, x2, x3, undef, undef, x20, x1, x8, x9, x10, x11, x12, x12, (D 0), (D 1), (D 2), (D 3), (D 4), (D 5), x20], []⟩) (by kernel_rfl) ?_
    refine wp_ret ?_
    exact end1 (Try.results39) (by kernel_rfl) (by kernel_rfl) HA_2 H _ (.inr rfl)

end Go.Proofs.Ythhpieidlpjbmaa
