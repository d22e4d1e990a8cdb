/- The shallow reading of one function, and that the function does it. Written by a program. -/
import Derived.Test.YtpgpbhbpamgboaaFnC
set_option linter.unusedVariables false
namespace Go.Proofs.Ytpgpbhbpamgboaa
open Go Go.HW

def betonyref14_Same_S (x0 x1 : Value) (h : Heap) (R : Value → Heap → Prop) : Prop :=
  sBox h x0 39 fun x2 h => 
  sBox h x1 39 fun x3 h_1 => 
  sOff x2 0 fun x5 =>
  sLd h_1 x5 fun x6 =>
  sOff x3 0 fun x7 =>
  sLd h_1 x7 fun x8 =>
  sEq x6 x8 fun x9 =>
  sAndH x9 h_1 (fun k =>
  sOff x2 1 fun x11 =>
  sLd h_1 x11 fun x12 =>
  sOff x3 1 fun x13 =>
  sLd h_1 x13 fun x14 =>
  betonyref01_Same_c x12 x14 h_1 fun x15 h_3 => 
  k x15 h_3) fun x16 h_2 =>
  R x16 h_2
set_option maxRecDepth 100000 in
theorem betonyref14_Same_runs {x0 x1 : Value} {h : Heap} {R : Value → Heap → Prop} (H : betonyref14_Same_S x0 x1 h R) : betonyref14_Same_c x0 x1 h R := by
  unfold betonyref14_Same_S at H
  refine runs_of (b := ⟨#[x0, x1, undef, undef, undef, undef, undef, undef, undef, undef, undef, undef, undef, undef, undef, undef, undef], []⟩) Try.call21 Try.func21 rfl (by kernel_rfl) (fun w0 HA => ?_)
  refine wp_seq ?_
  refine lwp_list ?_
  refine ls_d (d := some 2) (by kernel_rfl) (by kernel_rfl) HA (d_box (by kernel_rfl) H) (fun x2 h w H HA => ?_)
  refine ls_d (d := some 3) (by kernel_rfl) (by kernel_rfl) HA (d_box (by kernel_rfl) H) (fun x3 h_1 w_1 H HA_1 => ?_)
  refine ls_assign (x := (.bool false)) (by kernel_rfl) (by kernel_rfl) ?_
  refine ls_nil ?_
  refine then_normal ?_
  refine fr_eq (b := ⟨#[x0, x1, x2, x3, (.bool false), undef, undef, undef, undef, undef, undef, undef, undef, undef, undef, undef, undef], []⟩) (by kernel_rfl) ?_
  refine wp_seq ?_
  refine lwp_list ?_
  refine ls_p (d := some 5) (by kernel_rfl) (by kernel_rfl) (p_off Try.underlying39 rfl (fun w => ⟨_, Try.sizeOf3 w⟩) rfl (by kernel_rfl) H) (fun x5 H => ?_)
  refine ls_y (d := some 6) (by kernel_rfl) (by kernel_rfl) HA_1 (y_ld Try.isAgg3 (by kernel_rfl) H) (fun x6 H => ?_)
  refine ls_p (d := some 7) (by kernel_rfl) (by kernel_rfl) (p_off Try.underlying39 rfl (fun w => ⟨_, Try.sizeOf3 w⟩) rfl (by kernel_rfl) H) (fun x7 H => ?_)
  refine ls_y (d := some 8) (by kernel_rfl) (by kernel_rfl) HA_1 (y_ld Try.isAgg3 (by kernel_rfl) H) (fun x8 H => ?_)
  refine ls_p (d := some 9) (by kernel_rfl) (by kernel_rfl) (p_sEq (by kernel_rfl) (by kernel_rfl) H) (fun x9 H => ?_)
  refine ls_move (x := x9) (by kernel_rfl) (by kernel_rfl) ?_
  refine ls_fr (b := ⟨#[x0, x1, x2, x3, (.bool false), x5, x6, x7, x8, x9, x9, undef, undef, undef, undef, undef, undef], []⟩) (by kernel_rfl) ?_
  refine ls_andh [(), (), (), (), (), ()] (fun K a w => ∃ (D : Nat → Value) (x16 : Value) (h_2 : Heap), a = ⟨#[x0, x1, x2, x3, (.bool false), x5, x6, x7, x8, x9, x9, (D 0), (D 1), (D 2), (D 3), (D 4), x16], []⟩ ∧ At w0 w h_2 ∧ K x16 h_2) H (fun hb H => ?_) (fun hb H => ?_) ?_
  · refine ls_p (d := some 11) (by kernel_rfl) (by rw [hb]; kernel_rfl) (p_off Try.underlying39 rfl (fun w => ⟨_, Try.sizeOf37 w⟩) rfl (by kernel_rfl) H) (fun x11 H => ?_)
    refine ls_y (d := some 12) (by kernel_rfl) (by rw [hb]; kernel_rfl) HA_1 (y_ld Try.isAgg37 (by kernel_rfl) H) (fun x12 H => ?_)
    refine ls_p (d := some 13) (by kernel_rfl) (by rw [hb]; kernel_rfl) (p_off Try.underlying39 rfl (fun w => ⟨_, Try.sizeOf37 w⟩) rfl (by kernel_rfl) H) (fun x13 H => ?_)
    refine ls_y (d := some 14) (by kernel_rfl) (by rw [hb]; kernel_rfl) HA_1 (y_ld Try.isAgg37 (by kernel_rfl) H) (fun x14 H => ?_)
    refine ls_d (d := some 15) (by kernel_rfl) (by rw [hb]; kernel_rfl) HA_1 (d_call (by kernel_rfl) (by kernel_rfl) H) (fun x15 h_3 w_3 H HA_3 => ?_)
    refine ls_pick_t (x := x15) (by kernel_rfl) (by rw [hb]; kernel_rfl) (by kernel_rfl) ?_
    refine ls_nil ?_
    refine then_normal ?_
    exact ⟨(fun i => ([x11, x12, x13, x14, x15]).getD i undef), x15, h_3, by kernel_rfl, HA_3, H⟩
  · refine ls_skip (d := some 11) (by kernel_rfl) (by rw [hb]; kernel_rfl) ?_
    refine ls_skip (d := some 12) (by kernel_rfl) (by rw [hb]; kernel_rfl) ?_
    refine ls_skip (d := some 13) (by kernel_rfl) (by rw [hb]; kernel_rfl) ?_
    refine ls_skip (d := some 14) (by kernel_rfl) (by rw [hb]; kernel_rfl) ?_
    refine ls_skip (d := some 15) (by kernel_rfl) (by rw [hb]; kernel_rfl) ?_
    refine ls_pick_f (y := (.bool false)) (by kernel_rfl) (by rw [hb]; kernel_rfl) (by kernel_rfl) ?_
    refine ls_nil ?_
    refine then_normal ?_
    exact ⟨(fun i => ([undef, undef, undef, undef, undef]).getD i undef), (.bool false), h_1, by kernel_rfl, HA_1, H⟩
  · rintro _ w_2 ⟨D, x16, h_2, rfl, HA_2, H⟩
    refine ls_assign (x := x16) (by kernel_rfl) (by kernel_rfl) ?_
    refine ls_nil ?_
    refine then_normal ?_
    refine fr_eq (b := ⟨#[x0, x1, x2, x3, x16, x5, x6, x7, x8, x9, x9, (D 0), (D 1), (D 2), (D 3), (D 4), x16], []⟩) (by kernel_rfl) ?_
    refine wp_ret ?_
    exact end1 (Try.results21) (by kernel_rfl) (by kernel_rfl) HA_2 H _ (.inr rfl)

end Go.Proofs.Ytpgpbhbpamgboaa
