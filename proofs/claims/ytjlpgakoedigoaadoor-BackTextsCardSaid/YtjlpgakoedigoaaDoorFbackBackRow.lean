/- The shallow reading of one function, and that the function does it. Written by a program. -/
import Derived.Test.YtjlpgakoedigoaaDoorFnC
set_option linter.unusedVariables false
namespace Go.Proofs.YtjlpgakoedigoaaDoor
open Go Go.HW

def back_Back_Row_j1 (R : Value → Heap → Prop) (x0 x5 : Value) (h : Heap) : Prop :=
  sNil x0 fun x33 =>
  sOff x33 0 fun x34 =>
  sLd h x34 fun x35 =>
  sIxS x35 x5 1 fun x37 =>
  sLd h x37 fun x38 =>
  slices_Clone_api_Cell_api_Cell_c x38 h fun x39 h_1 => 
  R x39 h_1
def back_Back_Row_S (x0 x1 : Value) (h : Heap) (R : Value → Heap → Prop) : Prop :=
  sLt x1 (.int .i64 0) fun x7 =>
  sOr x7 (fun k =>
  sNil x0 fun x11 =>
  sOff x11 3 fun x12 =>
  sLd h x12 fun x13 =>
  sGe x1 x13 fun x14 =>
  k x14) fun x15 =>
  sIf x15 (R (.slice none 0 0) h) (sNil x0 fun x17 =>
  sOff x17 2 fun x18 =>
  sLd h x18 fun x19 =>
  sSub .i64 x19 (.int .i64 1) fun x20 =>
  sSub .i64 x20 x1 fun x22 =>
  sLt x22 (.int .i64 0) fun x24 =>
  sIf x24 (sNil x0 fun x27 =>
  sOff x27 0 fun x28 =>
  sLd h x28 fun x29 =>
  sLen x29 fun x30 =>
  sAdd .i64 x22 x30 fun x31 =>
  back_Back_Row_j1 R x0 x31 h) (back_Back_Row_j1 R x0 x22 h))
set_option maxRecDepth 100000 in
theorem back_Back_Row_runs {x0 x1 : Value} {h : Heap} {R : Value → Heap → Prop} (H : back_Back_Row_S x0 x1 h R) : back_Back_Row_c x0 x1 h R := by
  unfold back_Back_Row_S at H
  refine runs_of (b := ⟨#[x0, x1, undef, undef, undef, undef, undef, undef, undef, undef, undef, undef, undef, undef, undef, undef, undef, undef, undef, undef, undef, undef, undef, undef, undef, undef, undef, undef, undef, undef, undef, undef, undef, undef, undef, undef, undef, undef, undef, undef], []⟩) Tryd.call14 Tryd.func14 rfl (by kernel_rfl) (fun w0 HA => ?_)
  refine wp_seq ?_
  refine lwp_list ?_
  refine ls_assign (x := (.slice none 0 0)) (by kernel_rfl) (by kernel_rfl) ?_
  refine ls_nil ?_
  refine then_normal ?_
  refine fr_eq (b := ⟨#[x0, x1, undef, undef, (.slice none 0 0), undef, undef, undef, undef, undef, undef, undef, undef, undef, undef, undef, undef, undef, undef, undef, undef, undef, undef, undef, undef, undef, undef, undef, undef, undef, undef, undef, undef, undef, undef, undef, undef, undef, undef, undef], []⟩) (by kernel_rfl) ?_
  refine wp_seq ?_
  refine wp_seq ?_
  refine lwp_list ?_
  refine ls_move (x := x1) (by kernel_rfl) (by kernel_rfl) ?_
  refine ls_p (d := some 7) (by kernel_rfl) (by kernel_rfl) (p_sLt (by kernel_rfl) (by kernel_rfl) H) (fun x7 H => ?_)
  refine ls_move (x := x7) (by kernel_rfl) (by kernel_rfl) ?_
  refine ls_or [(), (), (), (), (), (), ()] (fun K a w => ∃ (D : Nat → Value) (x15 : Value), a = ⟨#[x0, x1, undef, undef, (.slice none 0 0), undef, x1, x7, x7, (D 0), (D 1), (D 2), (D 3), (D 4), (D 5), x15, undef, undef, undef, undef, undef, undef, undef, undef, undef, undef, undef, undef, undef, undef, undef, undef, undef, undef, undef, undef, undef, undef, undef, undef], []⟩ ∧ At w0 w h ∧ K x15) H (fun hb H => ?_) (fun hb H => ?_) ?_
  · refine ls_move (x := x1) (by rw [hb]; kernel_rfl) (by kernel_rfl) ?_
    refine ls_move (x := x0) (by rw [hb]; kernel_rfl) (by kernel_rfl) ?_
    refine ls_p (d := some 11) (by kernel_rfl) (by rw [hb]; kernel_rfl) (p_nil (by kernel_rfl) H) (fun x11 H => ?_)
    refine ls_fr (b := ⟨#[x0, x1, undef, undef, (.slice none 0 0), undef, x1, x7, x7, x1, x0, x11, undef, undef, undef, undef, undef, undef, undef, undef, undef, undef, undef, undef, undef, undef, undef, undef, undef, undef, undef, undef, undef, undef, undef, undef, undef, undef, undef, undef], []⟩) (by kernel_rfl) ?_
    refine ls_p (d := some 12) (by kernel_rfl) (by rw [hb]; kernel_rfl) (p_off Tryd.underlying56 rfl (fun w => ⟨_, Tryd.sizeOf3 w⟩) rfl (by kernel_rfl) H) (fun x12 H => ?_)
    refine ls_y (d := some 13) (by kernel_rfl) (by rw [hb]; kernel_rfl) HA (y_ld Tryd.isAgg3 (by kernel_rfl) H) (fun x13 H => ?_)
    refine ls_p (d := some 14) (by kernel_rfl) (by rw [hb]; kernel_rfl) (p_sGe (by kernel_rfl) (by kernel_rfl) H) (fun x14 H => ?_)
    refine ls_pick_f (y := x14) (by kernel_rfl) (by rw [hb]; kernel_rfl) (by kernel_rfl) ?_
    refine ls_nil ?_
    refine then_normal ?_
    exact ⟨(fun i => ([x1, x0, x11, x12, x13, x14]).getD i undef), x14, by kernel_rfl, HA, H⟩
  · refine ls_skip (d := some 9) (by kernel_rfl) (by rw [hb]; kernel_rfl) ?_
    refine ls_skip (d := some 10) (by kernel_rfl) (by rw [hb]; kernel_rfl) ?_
    refine ls_skip (d := some 11) (by kernel_rfl) (by rw [hb]; kernel_rfl) ?_
    refine ls_fr (b := ⟨#[x0, x1, undef, undef, (.slice none 0 0), undef, x1, x7, x7, undef, undef, undef, undef, undef, undef, undef, undef, undef, undef, undef, undef, undef, undef, undef, undef, undef, undef, undef, undef, undef, undef, undef, undef, undef, undef, undef, undef, undef, undef, undef], []⟩) (by kernel_rfl) ?_
    refine ls_skip (d := some 12) (by kernel_rfl) (by rw [hb]; kernel_rfl) ?_
    refine ls_skip (d := some 13) (by kernel_rfl) (by rw [hb]; kernel_rfl) ?_
    refine ls_skip (d := some 14) (by kernel_rfl) (by rw [hb]; kernel_rfl) ?_
    refine ls_pick_t (x := (.bool true)) (by kernel_rfl) (by rw [hb]; kernel_rfl) (by kernel_rfl) ?_
    refine ls_nil ?_
    refine then_normal ?_
    exact ⟨(fun i => ([undef, undef, undef, undef, undef, undef]).getD i undef), (.bool true), by kernel_rfl, HA, H⟩
  · rintro _ w ⟨D, x15, rfl, HA, H⟩
    refine ls_nil ?_
    refine then_normal ?_
    refine fr_eq (b := ⟨#[x0, x1, undef, undef, (.slice none 0 0), undef, x1, x7, x7, (D 0), (D 1), (D 2), (D 3), (D 4), (D 5), x15, undef, undef, undef, undef, undef, undef, undef, undef, undef, undef, undef, undef, undef, undef, undef, undef, undef, undef, undef, undef, undef, undef, undef, undef], []⟩) (by kernel_rfl) ?_
    refine wp_if rfl H (fun H => ?_) (fun H => ?_)
    · refine wp_seq ?_
      refine lwp_list ?_
      refine ls_assign (x := (.slice none 0 0)) (by kernel_rfl) (by kernel_rfl) ?_
      refine ls_nil ?_
      refine then_normal ?_
      refine fr_eq (b := ⟨#[x0, x1, undef, undef, (.slice none 0 0), undef, x1, x7, x7, (D 0), (D 1), (D 2), (D 3), (D 4), (D 5), x15, undef, undef, undef, undef, undef, undef, undef, undef, undef, undef, undef, undef, undef, undef, undef, undef, undef, undef, undef, undef, undef, undef, undef, undef], []⟩) (by kernel_rfl) ?_
      refine wp_ret ?_
      refine then_ret ?_
      exact end1 (Tryd.results14) (by kernel_rfl) (by kernel_rfl) HA H _ (.inr rfl)
    · refine wp_skip ?_
      refine then_normal ?_
      refine fr_eq (b := ⟨#[x0, x1, undef, undef, (.slice none 0 0), undef, x1, x7, x7, (D 0), (D 1), (D 2), (D 3), (D 4), (D 5), x15, undef, undef, undef, undef, undef, undef, undef, undef, undef, undef, undef, undef, undef, undef, undef, undef, undef, undef, undef, undef, undef, undef, undef, undef], []⟩) (by kernel_rfl) ?_
      refine wp_seq ?_
      refine lwp_list ?_
      refine ls_move (x := x0) (by kernel_rfl) (by kernel_rfl) ?_
      refine ls_p (d := some 17) (by kernel_rfl) (by kernel_rfl) (p_nil (by kernel_rfl) H) (fun x17 H => ?_)
      refine ls_p (d := some 18) (by kernel_rfl) (by kernel_rfl) (p_off Tryd.underlying56 rfl (fun w => ⟨_, Tryd.sizeOf3 w⟩) rfl (by kernel_rfl) H) (fun x18 H => ?_)
      refine ls_y (d := some 19) (by kernel_rfl) (by kernel_rfl) HA (y_ld Tryd.isAgg3 (by kernel_rfl) H) (fun x19 H => ?_)
      refine ls_p (d := some 20) (by kernel_rfl) (by kernel_rfl) (p_sub (by kernel_rfl) (by kernel_rfl) H) (fun x20 H => ?_)
      refine ls_move (x := x1) (by kernel_rfl) (by kernel_rfl) ?_
      refine ls_fr (b := ⟨#[x0, x1, undef, undef, (.slice none 0 0), undef, x1, x7, x7, (D 0), (D 1), (D 2), (D 3), (D 4), (D 5), x15, x0, x17, x18, x19, x20, x1, undef, undef, undef, undef, undef, undef, undef, undef, undef, undef, undef, undef, undef, undef, undef, undef, undef, undef], []⟩) (by kernel_rfl) ?_
      refine ls_p (d := some 22) (by kernel_rfl) (by kernel_rfl) (p_sub (by kernel_rfl) (by kernel_rfl) H) (fun x22 H => ?_)
      refine ls_assign (x := x22) (by kernel_rfl) (by kernel_rfl) ?_
      refine ls_nil ?_
      refine then_normal ?_
      refine fr_eq (b := ⟨#[x0, x1, undef, undef, (.slice none 0 0), x22, x1, x7, x7, (D 0), (D 1), (D 2), (D 3), (D 4), (D 5), x15, x0, x17, x18, x19, x20, x1, x22, undef, undef, undef, undef, undef, undef, undef, undef, undef, undef, undef, undef, undef, undef, undef, undef, undef], []⟩) (by kernel_rfl) ?_
      refine wp_seq ?_
      refine wp_seq ?_
      refine lwp_list ?_
      refine ls_move (x := x22) (by kernel_rfl) (by kernel_rfl) ?_
      refine ls_p (d := some 24) (by kernel_rfl) (by kernel_rfl) (p_sLt (by kernel_rfl) (by kernel_rfl) H) (fun x24 H => ?_)
      refine ls_nil ?_
      refine then_normal ?_
      refine fr_eq (b := ⟨#[x0, x1, undef, undef, (.slice none 0 0), x22, x1, x7, x7, (D 0), (D 1), (D 2), (D 3), (D 4), (D 5), x15, x0, x17, x18, x19, x20, x1, x22, x22, x24, undef, undef, undef, undef, undef, undef, undef, undef, undef, undef, undef, undef, undef, undef, undef], []⟩) (by kernel_rfl) ?_
      refine wp_join (fun a w => ∃ (D_1 : Nat → Value) (x5 : Value) (h : Heap), a = ⟨#[x0, x1, undef, undef, (.slice none 0 0), x5, x1, x7, x7, (D 0), (D 1), (D 2), (D 3), (D 4), (D 5), x15, x0, x17, x18, x19, x20, x1, x22, x22, x24, (D_1 0), (D_1 1), (D_1 2), (D_1 3), (D_1 4), (D_1 5), (D_1 6), undef, undef, undef, undef, undef, undef, undef, undef], []⟩ ∧ At w0 w h ∧ back_Back_Row_j1 R x0 x5 h) ?_ ?_
      · refine wp_if rfl H (fun H => ?_) (fun H => ?_)
        · refine lwp_list ?_
          refine ls_move (x := x22) (by kernel_rfl) (by kernel_rfl) ?_
          refine ls_move (x := x0) (by kernel_rfl) (by kernel_rfl) ?_
          refine ls_p (d := some 27) (by kernel_rfl) (by kernel_rfl) (p_nil (by kernel_rfl) H) (fun x27 H => ?_)
          refine ls_p (d := some 28) (by kernel_rfl) (by kernel_rfl) (p_off Tryd.underlying56 rfl (fun w => ⟨_, Tryd.sizeOf39 w⟩) rfl (by kernel_rfl) H) (fun x28 H => ?_)
          refine ls_y (d := some 29) (by kernel_rfl) (by kernel_rfl) HA (y_ld Tryd.isAgg39 (by kernel_rfl) H) (fun x29 H => ?_)
          refine ls_p (d := some 30) (by kernel_rfl) (by kernel_rfl) (p_len Tryd.underlying39 (by kernel_rfl) H) (fun x30 H => ?_)
          refine ls_fr (b := ⟨#[x0, x1, undef, undef, (.slice none 0 0), x22, x1, x7, x7, (D 0), (D 1), (D 2), (D 3), (D 4), (D 5), x15, x0, x17, x18, x19, x20, x1, x22, x22, x24, x22, x0, x27, x28, x29, x30, undef, undef, undef, undef, undef, undef, undef, undef, undef], []⟩) (by kernel_rfl) ?_
          refine ls_p (d := some 31) (by kernel_rfl) (by kernel_rfl) (p_add (by kernel_rfl) (by kernel_rfl) H) (fun x31 H => ?_)
          refine ls_assign (x := x31) (by kernel_rfl) (by kernel_rfl) ?_
          refine ls_nil ?_
          exact ⟨(fun i => ([x22, x0, x27, x28, x29, x30, x31]).getD i undef), x31, h, by kernel_rfl, HA, H⟩
        · refine wp_skip ?_
          exact ⟨(fun i => ([undef, undef, undef, undef, undef, undef, undef]).getD i undef), x22, h, by kernel_rfl, HA, H⟩
      · rintro _ w_1 ⟨D_1, x5, h, rfl, HA_1, H⟩
        unfold back_Back_Row_j1 at H
        refine then_normal ?_
        refine fr_eq (b := ⟨#[x0, x1, undef, undef, (.slice none 0 0), x5, x1, x7, x7, (D 0), (D 1), (D 2), (D 3), (D 4), (D 5), x15, x0, x17, x18, x19, x20, x1, x22, x22, x24, (D_1 0), (D_1 1), (D_1 2), (D_1 3), (D_1 4), (D_1 5), (D_1 6), undef, undef, undef, undef, undef, undef, undef, undef], []⟩) (by kernel_rfl) ?_
        refine wp_seq ?_
        refine lwp_list ?_
        refine ls_move (x := x0) (by kernel_rfl) (by kernel_rfl) ?_
        refine ls_p (d := some 33) (by kernel_rfl) (by kernel_rfl) (p_nil (by kernel_rfl) H) (fun x33 H => ?_)
        refine ls_p (d := some 34) (by kernel_rfl) (by kernel_rfl) (p_off Tryd.underlying56 rfl (fun w => ⟨_, Tryd.sizeOf39 w⟩) rfl (by kernel_rfl) H) (fun x34 H => ?_)
        refine ls_y (d := some 35) (by kernel_rfl) (by kernel_rfl) HA_1 (y_ld Tryd.isAgg39 (by kernel_rfl) H) (fun x35 H => ?_)
        refine ls_move (x := x5) (by kernel_rfl) (by kernel_rfl) ?_
        refine ls_p (d := some 37) (by kernel_rfl) (by kernel_rfl) (p_ixs Tryd.underlying39 Tryd.sizeOf22 (by kernel_rfl) (by kernel_rfl) H) (fun x37 H => ?_)
        refine ls_fr (b := ⟨#[x0, x1, undef, undef, (.slice none 0 0), x5, x1, x7, x7, (D 0), (D 1), (D 2), (D 3), (D 4), (D 5), x15, x0, x17, x18, x19, x20, x1, x22, x22, x24, (D_1 0), (D_1 1), (D_1 2), (D_1 3), (D_1 4), (D_1 5), (D_1 6), x0, x33, x34, x35, x5, x37, undef, undef], []⟩) (by kernel_rfl) ?_
        refine ls_y (d := some 38) (by kernel_rfl) (by kernel_rfl) HA_1 (y_ld Tryd.isAgg22 (by kernel_rfl) H) (fun x38 H => ?_)
        refine ls_d (d := some 39) (by kernel_rfl) (by kernel_rfl) HA_1 (d_call (by kernel_rfl) (by kernel_rfl) H) (fun x39 h_1 w_2 H HA_2 => ?_)
        refine ls_assign (x := x39) (by kernel_rfl) (by kernel_rfl) ?_
        refine ls_nil ?_
        refine then_normal ?_
        refine fr_eq (b := ⟨#[x0, x1, undef, undef, x39, x5, x1, x7, x7, (D 0), (D 1), (D 2), (D 3), (D 4), (D 5), x15, x0, x17, x18, x19, x20, x1, x22, x22, x24, (D_1 0), (D_1 1), (D_1 2), (D_1 3), (D_1 4), (D_1 5), (D_1 6), x0, x33, x34, x35, x5, x37, x38, x39], []⟩) (by kernel_rfl) ?_
        refine wp_ret ?_
        exact end1 (Tryd.results14) (by kernel_rfl) (by kernel_rfl) HA_2 H _ (.inr rfl)

end Go.Proofs.YtjlpgakoedigoaaDoor
