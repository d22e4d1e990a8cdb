/- The shallow reading of one function, and that the function does it. Written by a program. -/
import Derived.Test.YthhpieidlpjbmaaFnC
set_option linter.unusedVariables false
namespace Go.Proofs.Ythhpieidlpjbmaa
open Go Go.HW

def betonyref06_Grid_In_S (x0 x1 x2 : Value) (h : Heap) (R : Value → Heap → Prop) : Prop :=
  sBox h x0 37 fun x3 h => 
  sGe x1 (.int .i64 0) fun x8 =>
  sAnd x8 (fun k_2 =>
  sOff x3 0 fun x11 =>
  sLd h x11 fun x12 =>
  sLt x1 x12 fun x13 =>
  k_2 x13) fun x14 =>
  sAnd x14 (fun k_1 =>
  sGe x2 (.int .i64 0) fun x17 =>
  k_1 x17) fun x18 =>
  sAnd x18 (fun k =>
  sOff x3 1 fun x21 =>
  sLd h x21 fun x22 =>
  sLt x2 x22 fun x23 =>
  k x23) fun x24 =>
  R x24 h
set_option maxRecDepth 100000 in
theorem betonyref06_Grid_In_runs {x0 x1 x2 : Value} {h : Heap} {R : Value → Heap → Prop} (H : betonyref06_Grid_In_S x0 x1 x2 h R) : betonyref06_Grid_In_c x0 x1 x2 h R := by
  unfold betonyref06_Grid_In_S at H
  refine runs_of (b := ⟨#[x0, x1, x2, undef, undef, undef, undef, undef, undef, undef, undef, undef, undef, undef, undef, undef, undef, undef, undef, undef, undef, undef, undef, undef, undef], []⟩) Try.call17 Try.func17 rfl (by kernel_rfl) (fun w0 HA => ?_)
  refine wp_seq ?_
  refine lwp_list ?_
  refine ls_d (d := some 3) (by kernel_rfl) (by kernel_rfl) HA (d_box (by kernel_rfl) H) (fun x3 h w H HA => ?_)
  refine ls_assign (x := (.bool false)) (by kernel_rfl) (by kernel_rfl) ?_
  refine ls_nil ?_
  refine then_normal ?_
  refine fr_eq (b := ⟨#[x0, x1, x2, x3, undef, undef, (.bool false), undef, undef, undef, undef, undef, undef, undef, undef, undef, undef, undef, undef, undef, undef, undef, undef, undef, undef], []⟩) (by kernel_rfl) ?_
  refine wp_seq ?_
  refine lwp_list ?_
  refine ls_move (x := x1) (by kernel_rfl) (by kernel_rfl) ?_
  refine ls_p (d := some 8) (by kernel_rfl) (by kernel_rfl) (p_sGe (by kernel_rfl) (by kernel_rfl) H) (fun x8 H => ?_)
  refine ls_move (x := x8) (by kernel_rfl) (by kernel_rfl) ?_
  refine ls_and [(), (), (), (), ()] (fun K a w => ∃ (D : Nat → Value) (x14 : Value), a = ⟨#[x0, x1, x2, x3, undef, undef, (.bool false), x1, x8, x8, (D 0), (D 1), (D 2), (D 3), x14, undef, undef, undef, undef, undef, undef, undef, undef, undef, undef], []⟩ ∧ At w0 w h ∧ K x14) H (fun hb_2 H => ?_) (fun hb_2 H => ?_) ?_
  · refine ls_move (x := x1) (by rw [hb_2]; kernel_rfl) (by kernel_rfl) ?_
    refine ls_p (d := some 11) (by kernel_rfl) (by rw [hb_2]; kernel_rfl) (p_off Try.underlying37 rfl (fun w => ⟨_, Try.sizeOf3 w⟩) rfl (by kernel_rfl) H) (fun x11 H => ?_)
    refine ls_y (d := some 12) (by kernel_rfl) (by rw [hb_2]; kernel_rfl) HA (y_ld Try.isAgg3 (by kernel_rfl) H) (fun x12 H => ?_)
    refine ls_fr (b := ⟨#[x0, x1, x2, x3, undef, undef, (.bool false), x1, x8, x8, x1, x11, x12, undef, undef, undef, undef, undef, undef, undef, undef, undef, undef, undef, undef], []⟩) (by kernel_rfl) ?_
    refine ls_p (d := some 13) (by kernel_rfl) (by rw [hb_2]; kernel_rfl) (p_sLt (by kernel_rfl) (by kernel_rfl) H) (fun x13 H => ?_)
    refine ls_pick_t (x := x13) (by kernel_rfl) (by rw [hb_2]; kernel_rfl) (by kernel_rfl) ?_
    refine ls_nil ?_
    refine then_normal ?_
    exact ⟨(fun i => ([x1, x11, x12, x13]).getD i undef), x13, by kernel_rfl, HA, H⟩
  · refine ls_skip (d := some 10) (by kernel_rfl) (by rw [hb_2]; kernel_rfl) ?_
    refine ls_skip (d := some 11) (by kernel_rfl) (by rw [hb_2]; kernel_rfl) ?_
    refine ls_skip (d := some 12) (by kernel_rfl) (by rw [hb_2]; kernel_rfl) ?_
    refine ls_fr (b := ⟨#[x0, x1, x2, x3, undef, undef, (.bool false), x1, x8, x8, undef, undef, undef, undef, undef, undef, undef, undef, undef, undef, undef, undef, undef, undef, undef], []⟩) (by kernel_rfl) ?_
    refine ls_skip (d := some 13) (by kernel_rfl) (by rw [hb_2]; kernel_rfl) ?_
    refine ls_pick_f (y := (.bool false)) (by kernel_rfl) (by rw [hb_2]; kernel_rfl) (by kernel_rfl) ?_
    refine ls_nil ?_
    refine then_normal ?_
    exact ⟨(fun i => ([undef, undef, undef, undef]).getD i undef), (.bool false), by kernel_rfl, HA, H⟩
  · rintro _ w_1 ⟨D, x14, rfl, HA_1, H⟩
    refine ls_move (x := x14) (by kernel_rfl) (by kernel_rfl) ?_
    refine ls_and [(), (), ()] (fun K a w => ∃ (D_1 : Nat → Value) (x18 : Value), a = ⟨#[x0, x1, x2, x3, undef, undef, (.bool false), x1, x8, x8, (D 0), (D 1), (D 2), (D 3), x14, x14, (D_1 0), (D_1 1), x18, undef, undef, undef, undef, undef, undef], []⟩ ∧ At w0 w h ∧ K x18) H (fun hb_1 H => ?_) (fun hb_1 H => ?_) ?_
    · refine ls_move (x := x2) (by rw [hb_1]; kernel_rfl) (by kernel_rfl) ?_
      refine ls_p (d := some 17) (by kernel_rfl) (by rw [hb_1]; kernel_rfl) (p_sGe (by kernel_rfl) (by kernel_rfl) H) (fun x17 H => ?_)
      refine ls_pick_t (x := x17) (by kernel_rfl) (by rw [hb_1]; kernel_rfl) (by kernel_rfl) ?_
      refine ls_nil ?_
      refine then_normal ?_
      exact ⟨(fun i => ([x2, x17]).getD i undef), x17, by kernel_rfl, HA_1, H⟩
    · refine ls_skip (d := some 16) (by kernel_rfl) (by rw [hb_1]; kernel_rfl) ?_
      refine ls_skip (d := some 17) (by kernel_rfl) (by rw [hb_1]; kernel_rfl) ?_
      refine ls_pick_f (y := (.bool false)) (by kernel_rfl) (by rw [hb_1]; kernel_rfl) (by kernel_rfl) ?_
      refine ls_nil ?_
      refine then_normal ?_
      exact ⟨(fun i => ([undef, undef]).getD i undef), (.bool false), by kernel_rfl, HA_1, H⟩
    · rintro _ w_2 ⟨D_1, x18, rfl, HA_2, H⟩
      refine ls_move (x := x18) (by kernel_rfl) (by kernel_rfl) ?_
      refine ls_and [(), (), (), (), ()] (fun K a w => ∃ (D_2 : Nat → Value) (x24 : Value), a = ⟨#[x0, x1, x2, x3, undef, undef, (.bool false), x1, x8, x8, (D 0), (D 1), (D 2), (D 3), x14, x14, (D_1 0), (D_1 1), x18, x18, (D_2 0), (D_2 1), (D_2 2), (D_2 3), x24], []⟩ ∧ At w0 w h ∧ K x24) H (fun hb H => ?_) (fun hb H => ?_) ?_
      · refine ls_move (x := x2) (by rw [hb]; kernel_rfl) (by kernel_rfl) ?_
        refine ls_p (d := some 21) (by kernel_rfl) (by rw [hb]; kernel_rfl) (p_off Try.underlying37 rfl (fun w => ⟨_, Try.sizeOf3 w⟩) rfl (by kernel_rfl) H) (fun x21 H => ?_)
        refine ls_y (d := some 22) (by kernel_rfl) (by rw [hb]; kernel_rfl) HA_2 (y_ld Try.isAgg3 (by kernel_rfl) H) (fun x22 H => ?_)
        refine ls_p (d := some 23) (by kernel_rfl) (by rw [hb]; kernel_rfl) (p_sLt (by kernel_rfl) (by kernel_rfl) H) (fun x23 H => ?_)
        refine ls_pick_t (x := x23) (by kernel_rfl) (by rw [hb]; kernel_rfl) (by kernel_rfl) ?_
        refine ls_nil ?_
        refine then_normal ?_
        exact ⟨(fun i => ([x2, x21, x22, x23]).getD i undef), x23, by kernel_rfl, HA_2, H⟩
      · refine ls_skip (d := some 20) (by kernel_rfl) (by rw [hb]; kernel_rfl) ?_
        refine ls_skip (d := some 21) (by kernel_rfl) (by rw [hb]; kernel_rfl) ?_
        refine ls_skip (d := some 22) (by kernel_rfl) (by rw [hb]; kernel_rfl) ?_
        refine ls_skip (d := some 23) (by kernel_rfl) (by rw [hb]; kernel_rfl) ?_
        refine ls_pick_f (y := (.bool false)) (by kernel_rfl) (by rw [hb]; kernel_rfl) (by kernel_rfl) ?_
        refine ls_nil ?_
        refine then_normal ?_
        exact ⟨(fun i => ([undef, undef, undef, undef]).getD i undef), (.bool false), by kernel_rfl, HA_2, H⟩
      · rintro _ w_3 ⟨D_2, x24, rfl, HA_3, H⟩
        refine ls_assign (x := x24) (by kernel_rfl) (by kernel_rfl) ?_
        refine ls_nil ?_
        refine then_normal ?_
        refine fr_eq (b := ⟨#[x0, x1, x2, x3, undef, undef, x24, x1, x8, x8, (D 0), (D 1), (D 2), (D 3), x14, x14, (D_1 0), (D_1 1), x18, x18, (D_2 0), (D_2 1), (D_2 2), (D_2 3), x24], []⟩) (by kernel_rfl) ?_
        refine wp_ret ?_
        exact end1 (Try.results17) (by kernel_rfl) (by kernel_rfl) HA_3 H _ (.inr rfl)

end Go.Proofs.Ythhpieidlpjbmaa
