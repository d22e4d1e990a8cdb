/- Texts in one. -/
import Derived.Test.YtmhhjpfkipficaaDoorFnC
import Derived.Test.YtmhhjpfkipficaaDoorHwB
import Derived.Laws.RangeString
import Derived.Test.YtmhhjpfkipficaaDoorRows
import Derived.Test.YtmhhjpfkipficaaDoorKm3
section
/- The shallow reading of one function, and that the function does it. Written by a program. -/
set_option linter.unusedVariables false
namespace Go.Proofs.YtmhhjpfkipficaaDoor
open Go Go.HW

def screen_Screen_Lines_S (x0 x1 x2 : Value) (h : Heap) (R : Value → Heap → Prop) : Prop :=
  screen_Screen_cur_c x0 h fun x8 h => 
  sNil x8 fun x10 =>
  sOff x10 2 fun x11 =>
  sSt h x11 (.bool false) fun h_1 => 
  sLt x1 (.int .i64 1) fun x13 =>
  sOr x13 (fun k_1 =>
  sNil x8 fun x16 =>
  sOff x16 1 fun x17 =>
  sLd h_1 x17 fun x18 =>
  sNil x0 fun x20 =>
  sOff x20 19 fun x21 =>
  sLd h_1 x21 fun x22 =>
  sLt x18 x22 fun x23 =>
  k_1 x23) fun x24 =>
  sOr x24 (fun k =>
  sNil x8 fun x27 =>
  sOff x27 1 fun x28 =>
  sLd h_1 x28 fun x29 =>
  sNil x0 fun x31 =>
  sOff x31 20 fun x32 =>
  sLd h_1 x32 fun x33 =>
  sGt x29 x33 fun x34 =>
  k x34) fun x35 =>
  sIf x35 (R unit h_1) (sNil x8 fun x37 =>
  sOff x37 0 fun x38 =>
  sSt h_1 x38 (.int .i64 0) fun h_2 => 
  sIf x2 (sNil x8 fun x42 =>
  sOff x42 1 fun x43 =>
  sLd h_2 x43 fun x44 =>
  screen_Screen_down_c x0 x44 x1 h_2 fun x46 h_3 => 
  R unit h_3) (sNil x8 fun x49 =>
  sOff x49 1 fun x50 =>
  sLd h_2 x50 fun x51 =>
  screen_Screen_up_c x0 x51 x1 h_2 fun x53 h_4 => 
  R unit h_4))
set_option maxRecDepth 100000 in
theorem screen_Screen_Lines_runs {x0 x1 x2 : Value} {h : Heap} {R : Value → Heap → Prop} (H : screen_Screen_Lines_S x0 x1 x2 h R) : screen_Screen_Lines_c x0 x1 x2 h R := by
  unfold screen_Screen_Lines_S at H
  refine runs_of (b := ⟨#[x0, x1, x2, undef, undef, undef, undef, undef, undef, undef, undef, undef, undef, undef, undef, undef, undef, undef, undef, undef, undef, undef, undef, undef, undef, undef, undef, undef, undef, undef, undef, undef, undef, undef, undef, undef, undef, undef, undef, undef, undef, undef, undef, undef, undef, undef, undef, undef, undef, undef, undef, undef, undef, undef], []⟩) Tryd.call54 Tryd.func54 rfl (by kernel_rfl) (fun w0 HA => ?_)
  refine wp_seq ?_
  refine lwp_list ?_
  refine ls_move (x := x0) (by kernel_rfl) (by kernel_rfl) ?_
  refine ls_d (d := some 8) (by kernel_rfl) (by kernel_rfl) HA (d_call (by kernel_rfl) (by kernel_rfl) H) (fun x8 h w H HA => ?_)
  refine ls_assign (x := x8) (by kernel_rfl) (by kernel_rfl) ?_
  refine ls_nil ?_
  refine then_normal ?_
  refine fr_eq (b := ⟨#[x0, x1, x2, undef, undef, undef, x8, x0, x8, undef, undef, undef, undef, undef, undef, undef, undef, undef, undef, undef, undef, undef, undef, undef, undef, undef, undef, undef, undef, undef, undef, undef, undef, undef, undef, undef, undef, undef, undef, undef, undef, undef, undef, undef, undef, undef, undef, undef, undef, undef, undef, undef, undef, undef], []⟩) (by kernel_rfl) ?_
  refine wp_seq ?_
  refine lwp_list ?_
  refine ls_move (x := x8) (by kernel_rfl) (by kernel_rfl) ?_
  refine ls_p (d := some 10) (by kernel_rfl) (by kernel_rfl) (p_nil (by kernel_rfl) H) (fun x10 H => ?_)
  refine ls_p (d := some 11) (by kernel_rfl) (by kernel_rfl) (p_off Tryd.underlying38 rfl (fun w => ⟨_, Tryd.sizeOf4 w⟩) rfl (by kernel_rfl) H) (fun x11 H => ?_)
  refine ls_d (d := none) (by kernel_rfl) (by kernel_rfl) HA (d_st Tryd.sizeOf4 (by kernel_rfl) (by kernel_rfl) H) (fun _ h_1 w_1 H HA_1 => ?_)
  refine ls_nil ?_
  refine then_normal ?_
  refine fr_eq (b := ⟨#[x0, x1, x2, undef, undef, undef, x8, x0, x8, x8, x10, x11, undef, undef, undef, undef, undef, undef, undef, undef, undef, undef, undef, undef, undef, undef, undef, undef, undef, undef, undef, undef, undef, undef, undef, undef, undef, undef, undef, undef, undef, undef, undef, undef, undef, undef, undef, undef, undef, undef, undef, undef, undef, undef], []⟩) (by kernel_rfl) ?_
  refine wp_seq ?_
  refine wp_seq ?_
  refine lwp_qt (by kernel_rfl) (by kernel_rfl) HA_1 ?_
  refine lq_move (x := x1) (by kernel_rfl) (by kernel_rfl) ?_
  refine lq_p (d := some 13) (by kernel_rfl) (by kernel_rfl) (p_sLt (by kernel_rfl) (by kernel_rfl) H) (fun x13 H => ?_)
  refine lq_move (x := x13) (by kernel_rfl) (by kernel_rfl) ?_
  refine lq_or [(), (), (), (), (), (), (), (), (), ()] (fun K a => ∃ (D : Nat → Value) (x24 : Value), a = ⟨#[x0, x1, x2, undef, undef, undef, x8, x0, x8, x8, x10, x11, x1, x13, x13, (D 0), (D 1), (D 2), (D 3), (D 4), (D 5), (D 6), (D 7), (D 8), x24, undef, undef, undef, undef, undef, undef, undef, undef, undef, undef, undef, undef, undef, undef, undef, undef, undef, undef, undef, undef, undef, undef, undef, undef, undef, undef, undef, undef, undef], []⟩ ∧ K x24) H (fun hb_1 H => ?_) (fun hb_1 H => ?_) ?_
  · refine lq_move (x := x8) (by rw [hb_1]; kernel_rfl) (by kernel_rfl) ?_
    refine lq_p (d := some 16) (by kernel_rfl) (by rw [hb_1]; kernel_rfl) (p_nil (by kernel_rfl) H) (fun x16 H => ?_)
    refine lq_p (d := some 17) (by kernel_rfl) (by rw [hb_1]; kernel_rfl) (p_off Tryd.underlying38 rfl (fun w => ⟨_, Tryd.sizeOf3 w⟩) rfl (by kernel_rfl) H) (fun x17 H => ?_)
    refine lq_fr (b := ⟨#[x0, x1, x2, undef, undef, undef, x8, x0, x8, x8, x10, x11, x1, x13, x13, x8, x16, x17, undef, undef, undef, undef, undef, undef, undef, undef, undef, undef, undef, undef, undef, undef, undef, undef, undef, undef, undef, undef, undef, undef, undef, undef, undef, undef, undef, undef, undef, undef, undef, undef, undef, undef, undef, undef], []⟩) (by kernel_rfl) ?_
    refine lq_y (d := some 18) (by kernel_rfl) (by rw [hb_1]; kernel_rfl) HA_1 (y_ld Tryd.isAgg3 (by kernel_rfl) H) (fun x18 H => ?_)
    refine lq_move (x := x0) (by rw [hb_1]; kernel_rfl) (by kernel_rfl) ?_
    refine lq_p (d := some 20) (by kernel_rfl) (by rw [hb_1]; kernel_rfl) (p_nil (by kernel_rfl) H) (fun x20 H => ?_)
    refine lq_p (d := some 21) (by kernel_rfl) (by rw [hb_1]; kernel_rfl) (p_off Tryd.underlying64 rfl (fun w => ⟨_, Tryd.sizeOf3 w⟩) rfl (by kernel_rfl) H) (fun x21 H => ?_)
    refine lq_y (d := some 22) (by kernel_rfl) (by rw [hb_1]; kernel_rfl) HA_1 (y_ld Tryd.isAgg3 (by kernel_rfl) H) (fun x22 H => ?_)
    refine lq_p (d := some 23) (by kernel_rfl) (by rw [hb_1]; kernel_rfl) (p_sLt (by kernel_rfl) (by kernel_rfl) H) (fun x23 H => ?_)
    refine lq_fr (b := ⟨#[x0, x1, x2, undef, undef, undef, x8, x0, x8, x8, x10, x11, x1, x13, x13, x8, x16, x17, x18, x0, x20, x21, x22, x23, undef, undef, undef, undef, undef, undef, undef, undef, undef, undef, undef, undef, undef, undef, undef, undef, undef, undef, undef, undef, undef, undef, undef, undef, undef, undef, undef, undef, undef, undef], []⟩) (by kernel_rfl) ?_
    refine lq_pick_f (y := x23) (by kernel_rfl) (by rw [hb_1]; kernel_rfl) (by kernel_rfl) ?_
    refine lq_nil ?_
    exact ⟨(fun i => ([x8, x16, x17, x18, x0, x20, x21, x22, x23]).getD i undef), x23, by kernel_rfl, H⟩
  · refine lq_skip (d := some 15) (by kernel_rfl) (by rw [hb_1]; kernel_rfl) ?_
    refine lq_skip (d := some 16) (by kernel_rfl) (by rw [hb_1]; kernel_rfl) ?_
    refine lq_skip (d := some 17) (by kernel_rfl) (by rw [hb_1]; kernel_rfl) ?_
    refine lq_fr (b := ⟨#[x0, x1, x2, undef, undef, undef, x8, x0, x8, x8, x10, x11, x1, x13, x13, undef, undef, undef, undef, undef, undef, undef, undef, undef, undef, undef, undef, undef, undef, undef, undef, undef, undef, undef, undef, undef, undef, undef, undef, undef, undef, undef, undef, undef, undef, undef, undef, undef, undef, undef, undef, undef, undef, undef], []⟩) (by kernel_rfl) ?_
    refine lq_skip (d := some 18) (by kernel_rfl) (by rw [hb_1]; kernel_rfl) ?_
    refine lq_skip (d := some 19) (by kernel_rfl) (by rw [hb_1]; kernel_rfl) ?_
    refine lq_skip (d := some 20) (by kernel_rfl) (by rw [hb_1]; kernel_rfl) ?_
    refine lq_skip (d := some 21) (by kernel_rfl) (by rw [hb_1]; kernel_rfl) ?_
    refine lq_skip (d := some 22) (by kernel_rfl) (by rw [hb_1]; kernel_rfl) ?_
    refine lq_skip (d := some 23) (by kernel_rfl) (by rw [hb_1]; kernel_rfl) ?_
    refine lq_fr (b := ⟨#[x0, x1, x2, undef, undef, undef, x8, x0, x8, x8, x10, x11, x1, x13, x13, undef, undef, undef, undef, undef, undef, undef, undef, undef, undef, undef, undef, undef, undef, undef, undef, undef, undef, undef, undef, undef, undef, undef, undef, undef, undef, undef, undef, undef, undef, undef, undef, undef, undef, undef, undef, undef, undef, undef], []⟩) (by kernel_rfl) ?_
    refine lq_pick_t (x := (.bool true)) (by kernel_rfl) (by rw [hb_1]; kernel_rfl) (by kernel_rfl) ?_
    refine lq_nil ?_
    exact ⟨(fun i => ([undef, undef, undef, undef, undef, undef, undef, undef, undef]).getD i undef), (.bool true), by kernel_rfl, H⟩
  · rintro _ ⟨D, x24, rfl, H⟩
    refine lq_move (x := x24) (by kernel_rfl) (by kernel_rfl) ?_
    refine lq_or [(), (), (), (), (), (), (), (), (), ()] (fun K a => ∃ (D_1 : Nat → Value) (x35 : Value), a = ⟨#[x0, x1, x2, undef, undef, undef, x8, x0, x8, x8, x10, x11, x1, x13, x13, (D 0), (D 1), (D 2), (D 3), (D 4), (D 5), (D 6), (D 7), (D 8), x24, x24, (D_1 0), (D_1 1), (D_1 2), (D_1 3), (D_1 4), (D_1 5), (D_1 6), (D_1 7), (D_1 8), x35, undef, undef, undef, undef, undef, undef, undef, undef, undef, undef, undef, undef, undef, undef, undef, undef, undef, undef], []⟩ ∧ K x35) H (fun hb H => ?_) (fun hb H => ?_) ?_
    · refine lq_move (x := x8) (by rw [hb]; kernel_rfl) (by kernel_rfl) ?_
      refine lq_p (d := some 27) (by kernel_rfl) (by rw [hb]; kernel_rfl) (p_nil (by kernel_rfl) H) (fun x27 H => ?_)
      refine lq_p (d := some 28) (by kernel_rfl) (by rw [hb]; kernel_rfl) (p_off Tryd.underlying38 rfl (fun w => ⟨_, Tryd.sizeOf3 w⟩) rfl (by kernel_rfl) H) (fun x28 H => ?_)
      refine lq_y (d := some 29) (by kernel_rfl) (by rw [hb]; kernel_rfl) HA_1 (y_ld Tryd.isAgg3 (by kernel_rfl) H) (fun x29 H => ?_)
      refine lq_move (x := x0) (by rw [hb]; kernel_rfl) (by kernel_rfl) ?_
      refine lq_fr (b := ⟨#[x0, x1, x2, undef, undef, undef, x8, x0, x8, x8, x10, x11, x1, x13, x13, (D 0), (D 1), (D 2), (D 3), (D 4), (D 5), (D 6), (D 7), (D 8), x24, x24, x8, x27, x28, x29, x0, undef, undef, undef, undef, undef, undef, undef, undef, undef, undef, undef, undef, undef, undef, undef, undef, undef, undef, undef, undef, undef, undef, undef], []⟩) (by kernel_rfl) ?_
      refine lq_p (d := some 31) (by kernel_rfl) (by rw [hb]; kernel_rfl) (p_nil (by kernel_rfl) H) (fun x31 H => ?_)
      refine lq_p (d := some 32) (by kernel_rfl) (by rw [hb]; kernel_rfl) (p_off Tryd.underlying64 rfl (fun w => ⟨_, Tryd.sizeOf3 w⟩) rfl (by kernel_rfl) H) (fun x32 H => ?_)
      refine lq_y (d := some 33) (by kernel_rfl) (by rw [hb]; kernel_rfl) HA_1 (y_ld Tryd.isAgg3 (by kernel_rfl) H) (fun x33 H => ?_)
      refine lq_p (d := some 34) (by kernel_rfl) (by rw [hb]; kernel_rfl) (p_sGt (by kernel_rfl) (by kernel_rfl) H) (fun x34 H => ?_)
      refine lq_pick_f (y := x34) (by kernel_rfl) (by rw [hb]; kernel_rfl) (by kernel_rfl) ?_
      refine lq_nil ?_
      exact ⟨(fun i => ([x8, x27, x28, x29, x0, x31, x32, x33, x34]).getD i undef), x34, by kernel_rfl, H⟩
    · refine lq_skip (d := some 26) (by kernel_rfl) (by rw [hb]; kernel_rfl) ?_
      refine lq_skip (d := some 27) (by kernel_rfl) (by rw [hb]; kernel_rfl) ?_
      refine lq_skip (d := some 28) (by kernel_rfl) (by rw [hb]; kernel_rfl) ?_
      refine lq_skip (d := some 29) (by kernel_rfl) (by rw [hb]; kernel_rfl) ?_
      refine lq_skip (d := some 30) (by kernel_rfl) (by rw [hb]; kernel_rfl) ?_
      refine lq_fr (b := ⟨#[x0, x1, x2, undef, undef, undef, x8, x0, x8, x8, x10, x11, x1, x13, x13, (D 0), (D 1), (D 2), (D 3), (D 4), (D 5), (D 6), (D 7), (D 8), x24, x24, undef, undef, undef, undef, undef, undef, undef, undef, undef, undef, undef, undef, undef, undef, undef, undef, undef, undef, undef, undef, undef, undef, undef, undef, undef, undef, undef, undef], []⟩) (by kernel_rfl) ?_
      refine lq_skip (d := some 31) (by kernel_rfl) (by rw [hb]; kernel_rfl) ?_
      refine lq_skip (d := some 32) (by kernel_rfl) (by rw [hb]; kernel_rfl) ?_
      refine lq_skip (d := some 33) (by kernel_rfl) (by rw [hb]; kernel_rfl) ?_
      refine lq_skip (d := some 34) (by kernel_rfl) (by rw [hb]; kernel_rfl) ?_
      refine lq_pick_t (x := (.bool true)) (by kernel_rfl) (by rw [hb]; kernel_rfl) (by kernel_rfl) ?_
      refine lq_nil ?_
      exact ⟨(fun i => ([undef, undef, undef, undef, undef, undef, undef, undef, undef]).getD i undef), (.bool true), by kernel_rfl, H⟩
    · rintro _ ⟨D_1, x35, rfl, H⟩
      refine lq_nil ?_
      intro w_2 HA_2
      refine then_normal ?_
      refine fr_eq (b := ⟨#[x0, x1, x2, undef, undef, undef, x8, x0, x8, x8, x10, x11, x1, x13, x13, (D 0), (D 1), (D 2), (D 3), (D 4), (D 5), (D 6), (D 7), (D 8), x24, x24, (D_1 0), (D_1 1), (D_1 2), (D_1 3), (D_1 4), (D_1 5), (D_1 6), (D_1 7), (D_1 8), x35, undef, undef, undef, undef, undef, undef, undef, undef, undef, undef, undef, undef, undef, undef, undef, undef, undef, undef], []⟩) (by kernel_rfl) ?_
      refine wp_if rfl H (fun H => ?_) (fun H => ?_)
      · refine wp_ret ?_
        refine then_ret ?_
        exact end0 (Tryd.results54) (by kernel_rfl) HA_2 H _ (.inr rfl)
      · refine wp_skip ?_
        refine then_normal ?_
        refine fr_eq (b := ⟨#[x0, x1, x2, undef, undef, undef, x8, x0, x8, x8, x10, x11, x1, x13, x13, (D 0), (D 1), (D 2), (D 3), (D 4), (D 5), (D 6), (D 7), (D 8), x24, x24, (D_1 0), (D_1 1), (D_1 2), (D_1 3), (D_1 4), (D_1 5), (D_1 6), (D_1 7), (D_1 8), x35, undef, undef, undef, undef, undef, undef, undef, undef, undef, undef, undef, undef, undef, undef, undef, undef, undef, undef], []⟩) (by kernel_rfl) ?_
        refine wp_seq ?_
        refine lwp_list ?_
        refine ls_move (x := x8) (by kernel_rfl) (by kernel_rfl) ?_
        refine ls_p (d := some 37) (by kernel_rfl) (by kernel_rfl) (p_nil (by kernel_rfl) H) (fun x37 H => ?_)
        refine ls_p (d := some 38) (by kernel_rfl) (by kernel_rfl) (p_off Tryd.underlying38 rfl (fun w => ⟨_, Tryd.sizeOf3 w⟩) rfl (by kernel_rfl) H) (fun x38 H => ?_)
        refine ls_d (d := none) (by kernel_rfl) (by kernel_rfl) HA_2 (d_st Tryd.sizeOf3 (by kernel_rfl) (by kernel_rfl) H) (fun _ h_2 w_3 H HA_3 => ?_)
        refine ls_nil ?_
        refine then_normal ?_
        refine fr_eq (b := ⟨#[x0, x1, x2, undef, undef, undef, x8, x0, x8, x8, x10, x11, x1, x13, x13, (D 0), (D 1), (D 2), (D 3), (D 4), (D 5), (D 6), (D 7), (D 8), x24, x24, (D_1 0), (D_1 1), (D_1 2), (D_1 3), (D_1 4), (D_1 5), (D_1 6), (D_1 7), (D_1 8), x35, x8, x37, x38, undef, undef, undef, undef, undef, undef, undef, undef, undef, undef, undef, undef, undef, undef, undef], []⟩) (by kernel_rfl) ?_
        refine wp_seq ?_
        refine lwp_list ?_
        refine ls_move (x := x2) (by kernel_rfl) (by kernel_rfl) ?_
        refine ls_nil ?_
        refine then_normal ?_
        refine fr_eq (b := ⟨#[x0, x1, x2, undef, undef, undef, x8, x0, x8, x8, x10, x11, x1, x13, x13, (D 0), (D 1), (D 2), (D 3), (D 4), (D 5), (D 6), (D 7), (D 8), x24, x24, (D_1 0), (D_1 1), (D_1 2), (D_1 3), (D_1 4), (D_1 5), (D_1 6), (D_1 7), (D_1 8), x35, x8, x37, x38, x2, undef, undef, undef, undef, undef, undef, undef, undef, undef, undef, undef, undef, undef, undef], []⟩) (by kernel_rfl) ?_
        refine wp_if rfl H (fun H => ?_) (fun H => ?_)
        · refine lwp_list ?_
          refine ls_move (x := x0) (by kernel_rfl) (by kernel_rfl) ?_
          refine ls_move (x := x8) (by kernel_rfl) (by kernel_rfl) ?_
          refine ls_p (d := some 42) (by kernel_rfl) (by kernel_rfl) (p_nil (by kernel_rfl) H) (fun x42 H => ?_)
          refine ls_p (d := some 43) (by kernel_rfl) (by kernel_rfl) (p_off Tryd.underlying38 rfl (fun w => ⟨_, Tryd.sizeOf3 w⟩) rfl (by kernel_rfl) H) (fun x43 H => ?_)
          refine ls_y (d := some 44) (by kernel_rfl) (by kernel_rfl) HA_3 (y_ld Tryd.isAgg3 (by kernel_rfl) H) (fun x44 H => ?_)
          refine ls_move (x := x1) (by kernel_rfl) (by kernel_rfl) ?_
          refine ls_fr (b := ⟨#[x0, x1, x2, undef, undef, undef, x8, x0, x8, x8, x10, x11, x1, x13, x13, (D 0), (D 1), (D 2), (D 3), (D 4), (D 5), (D 6), (D 7), (D 8), x24, x24, (D_1 0), (D_1 1), (D_1 2), (D_1 3), (D_1 4), (D_1 5), (D_1 6), (D_1 7), (D_1 8), x35, x8, x37, x38, x2, x0, x8, x42, x43, x44, x1, undef, undef, undef, undef, undef, undef, undef, undef], []⟩) (by kernel_rfl) ?_
          refine ls_d (d := some 46) (by kernel_rfl) (by kernel_rfl) HA_3 (d_call (by kernel_rfl) (by kernel_rfl) H) (fun x46 h_3 w_4 H HA_4 => ?_)
          refine ls_nil ?_
          exact end0 (Tryd.results54) (by kernel_rfl) HA_4 H _ (.inl rfl)
        · refine lwp_list ?_
          refine ls_move (x := x0) (by kernel_rfl) (by kernel_rfl) ?_
          refine ls_move (x := x8) (by kernel_rfl) (by kernel_rfl) ?_
          refine ls_p (d := some 49) (by kernel_rfl) (by kernel_rfl) (p_nil (by kernel_rfl) H) (fun x49 H => ?_)
          refine ls_p (d := some 50) (by kernel_rfl) (by kernel_rfl) (p_off Tryd.underlying38 rfl (fun w => ⟨_, Tryd.sizeOf3 w⟩) rfl (by kernel_rfl) H) (fun x50 H => ?_)
          refine ls_y (d := some 51) (by kernel_rfl) (by kernel_rfl) HA_3 (y_ld Tryd.isAgg3 (by kernel_rfl) H) (fun x51 H => ?_)
          refine ls_move (x := x1) (by kernel_rfl) (by kernel_rfl) ?_
          refine ls_fr (b := ⟨#[x0, x1, x2, undef, undef, undef, x8, x0, x8, x8, x10, x11, x1, x13, x13, (D 0), (D 1), (D 2), (D 3), (D 4), (D 5), (D 6), (D 7), (D 8), x24, x24, (D_1 0), (D_1 1), (D_1 2), (D_1 3), (D_1 4), (D_1 5), (D_1 6), (D_1 7), (D_1 8), x35, x8, x37, x38, x2, undef, undef, undef, undef, undef, undef, undef, x0, x8, x49, x50, x51, x1, undef], []⟩) (by kernel_rfl) ?_
          refine ls_d (d := some 53) (by kernel_rfl) (by kernel_rfl) HA_3 (d_call (by kernel_rfl) (by kernel_rfl) H) (fun x53 h_4 w_5 H HA_5 => ?_)
          refine ls_nil ?_
          exact end0 (Tryd.results54) (by kernel_rfl) HA_5 H _ (.inl rfl)

end Go.Proofs.YtmhhjpfkipficaaDoor

end

section
/- The shallow reading of one function, and that the function does it. Written by a program. -/
set_option linter.unusedVariables false
namespace Go.Proofs.YtmhhjpfkipficaaDoor
open Go Go.HW

def screen_Screen_Put_j4 (R : Value → Heap → Prop) (x0 x7 x9 : Value) (h_6 : Heap) : Prop :=
  sNil x9 fun x120 =>
  sOff x120 0 fun x121 =>
  sLd h_6 x121 fun x122 =>
  sNil x9 fun x125 =>
  sOff x125 1 fun x126 =>
  sLd h_6 x126 fun x127 =>
  screen_Screen_part_c x0 x122 x7 x127 h_6 fun x128 h_7 => 
  sNil x9 fun x130 =>
  sOff x130 0 fun x131 =>
  sLd h_7 x131 fun x132 =>
  sAdd .i64 x132 x7 fun x134 =>
  sNil x9 fun x135 =>
  sOff x135 0 fun x136 =>
  sSt h_7 x136 x134 fun h_8 => 
  sNil x9 fun x138 =>
  sOff x138 2 fun x139 =>
  sSt h_8 x139 (.bool false) fun h_9 => 
  sNil x9 fun x141 =>
  sOff x141 0 fun x142 =>
  sLd h_9 x142 fun x143 =>
  sNil x0 fun x145 =>
  sOff x145 1 fun x146 =>
  sLd h_9 x146 fun x147 =>
  sEq x143 x147 fun x148 =>
  sIf x148 (sNil x9 fun x150 =>
  sOff x150 0 fun x151 =>
  sLd h_9 x151 fun x152 =>
  sSub .i64 x152 (.int .i64 1) fun x153 =>
  sNil x9 fun x154 =>
  sOff x154 0 fun x155 =>
  sSt h_9 x155 x153 fun h_10 => 
  sNil x0 fun x158 =>
  sOff x158 17 fun x159 =>
  sLd h_10 x159 fun x160 =>
  sNil x9 fun x161 =>
  sOff x161 2 fun x162 =>
  sSt h_10 x162 x160 fun h_11 => 
  R unit h_11) (R unit h_9)
def screen_Screen_Put_j3 (R : Value → Heap → Prop) (x0 x1 x7 x9 : Value) (h_4 : Heap) : Prop :=
  sNil x0 fun x77 =>
  sOff x77 0 fun x78 =>
  sLd h_4 x78 fun x79 =>
  sNil x9 fun x81 =>
  sOff x81 0 fun x82 =>
  sLd h_4 x82 fun x83 =>
  sNil x9 fun x85 =>
  sOff x85 1 fun x86 =>
  sLd h_4 x86 fun x87 =>
  sNil x0 fun x90 =>
  sOff x90 3 fun x91 =>
  sOff x91 3 fun x92 =>
  sLdN h_4 x92 3 fun x93 =>
  sBuild #[.int .i32 0, .int .i64 0, .int .i64 0, .int .i64 0] [(0, 1, x1), (1, 3, x93)] fun x94 =>
  grid_Grid_Set_c x79 x83 x87 x94 h_4 fun x95 h_5 => 
  sEq x7 (.int .i64 2) fun x97 =>
  sIf x97 (sNil x0 fun x99 =>
  sOff x99 0 fun x100 =>
  sLd h_5 x100 fun x101 =>
  sNil x9 fun x103 =>
  sOff x103 0 fun x104 =>
  sLd h_5 x104 fun x105 =>
  sAdd .i64 x105 (.int .i64 1) fun x106 =>
  sNil x9 fun x108 =>
  sOff x108 1 fun x109 =>
  sLd h_5 x109 fun x110 =>
  sNil x0 fun x112 =>
  sOff x112 3 fun x113 =>
  sOff x113 3 fun x114 =>
  sLdN h_5 x114 3 fun x115 =>
  sBuild #[.int .i32 0, .int .i64 0, .int .i64 0, .int .i64 0] [(0, 1, (.int .i32 (-1))), (1, 3, x115)] fun x116 =>
  grid_Grid_Set_c x101 x106 x110 x116 h_5 fun x117 h_12 => 
  screen_Screen_Put_j4 R x0 x7 x9 h_12) (screen_Screen_Put_j4 R x0 x7 x9 h_5)
def screen_Screen_Put_j2 (R : Value → Heap → Prop) (x0 x1 x7 x9 : Value) (h_3 : Heap) : Prop :=
  sNil x0 fun x70 =>
  sOff x70 18 fun x71 =>
  sLd h_3 x71 fun x72 =>
  sIf x72 (screen_Screen_Cells_c x0 x7 (.bool true) h_3 fun x75 h_13 => 
  screen_Screen_Put_j3 R x0 x1 x7 x9 h_13) (screen_Screen_Put_j3 R x0 x1 x7 x9 h_3)
def screen_Screen_Put_j1 (R : Value → Heap → Prop) (x0 x1 x7 x9 : Value) (h_2 : Heap) : Prop :=
  sNil x9 fun x33 =>
  sOff x33 0 fun x34 =>
  sLd h_2 x34 fun x35 =>
  sAdd .i64 x35 x7 fun x37 =>
  sNil x0 fun x39 =>
  sOff x39 1 fun x40 =>
  sLd h_2 x40 fun x41 =>
  sGt x37 x41 fun x42 =>
  sAnd x42 (fun k =>
  sNil x0 fun x45 =>
  sOff x45 17 fun x46 =>
  sLd h_2 x46 fun x47 =>
  k x47) fun x48 =>
  sIf x48 (screen_Screen_wrapped_c x0 h_2 fun x50 h_14 => 
  screen_Screen_Put_j2 R x0 x1 x7 x9 h_14) (sNil x9 fun x52 =>
  sOff x52 0 fun x53 =>
  sLd h_2 x53 fun x54 =>
  sAdd .i64 x54 x7 fun x56 =>
  sNil x0 fun x58 =>
  sOff x58 1 fun x59 =>
  sLd h_2 x59 fun x60 =>
  sGt x56 x60 fun x61 =>
  sIf x61 (sNil x9 fun x63 =>
  sOff x63 0 fun x64 =>
  sLd h_2 x64 fun x65 =>
  sSub .i64 x65 (.int .i64 1) fun x66 =>
  sNil x9 fun x67 =>
  sOff x67 0 fun x68 =>
  sSt h_2 x68 x66 fun h_15 => 
  screen_Screen_Put_j2 R x0 x1 x7 x9 h_15) (screen_Screen_Put_j2 R x0 x1 x7 x9 h_2))
def screen_Screen_Put_S (x0 x1 : Value) (h : Heap) (R : Value → Heap → Prop) : Prop :=
  wide_Width_c x1 h fun x7 h => 
  screen_Screen_cur_c x0 h fun x9 h_1 => 
  sLt x7 (.int .i64 1) fun x11 =>
  sOr x11 (fun k_2 =>
  sNil x0 fun x15 =>
  sOff x15 1 fun x16 =>
  sLd h_1 x16 fun x17 =>
  sGt x7 x17 fun x18 =>
  k_2 x18) fun x19 =>
  sIf x19 (R unit h_1) (sNil x9 fun x21 =>
  sOff x21 2 fun x22 =>
  sLd h_1 x22 fun x23 =>
  sAnd x23 (fun k_1 =>
  sNil x0 fun x26 =>
  sOff x26 17 fun x27 =>
  sLd h_1 x27 fun x28 =>
  k_1 x28) fun x29 =>
  sIf x29 (screen_Screen_wrapped_c x0 h_1 fun x31 h_16 => 
  screen_Screen_Put_j1 R x0 x1 x7 x9 h_16) (screen_Screen_Put_j1 R x0 x1 x7 x9 h_1))
set_option maxRecDepth 100000 in
theorem screen_Screen_Put_runs {x0 x1 : Value} {h : Heap} {R : Value → Heap → Prop} (H : screen_Screen_Put_S x0 x1 h R) : screen_Screen_Put_c x0 x1 h R := by
  unfold screen_Screen_Put_S at H
  refine runs_of (b := ⟨([x0, x1, undef, undef, undef, undef, undef, undef, undef, undef, undef, undef, undef, undef, undef, undef, undef, undef, undef, undef, undef, undef, undef, undef, undef, undef, undef, undef, undef, undef, undef, undef, undef, undef, undef, undef, undef, undef, undef, undef, undef, undef, undef, undef, undef, undef, undef, undef, undef, undef] ++ [undef, undef, undef, undef, undef, undef, undef, undef, undef, undef, undef, undef, undef, undef, undef, undef, undef, undef, undef, undef, undef, undef, undef, undef, undef, undef, undef, undef, undef, undef, undef, undef, undef, undef, undef, undef, undef, undef, undef, undef, undef, undef, undef, undef, undef, undef, undef, undef, undef, undef] ++ [undef, undef, undef, undef, undef, undef, undef, undef, undef, undef, undef, undef, undef, undef, undef, undef, undef, undef, undef, undef, undef, undef, undef, undef, undef, undef, undef, undef, undef, undef, undef, undef, undef, undef, undef, undef, undef, undef, undef, undef, undef, undef, undef, undef, undef, undef, undef, undef, undef, undef] ++ [undef, undef, undef, undef, undef, undef, undef, undef, undef, undef, undef, undef, undef]).toArray, []⟩) Tryd.call9 Tryd.func9 rfl (by kernel_rfl) (fun w0 HA => ?_)
  refine wp_seq ?_
  refine lwp_list ?_
  refine ls_move (x := x1) (by kernel_rfl) (by kernel_rfl) ?_
  refine ls_d (d := some 7) (by kernel_rfl) (by kernel_rfl) HA (d_call (by kernel_rfl) (by kernel_rfl) H) (fun x7 h w H HA => ?_)
  refine ls_move (x := x0) (by kernel_rfl) (by kernel_rfl) ?_
  refine ls_d (d := some 9) (by kernel_rfl) (by kernel_rfl) HA (d_call (by kernel_rfl) (by kernel_rfl) H) (fun x9 h_1 w_1 H HA_1 => ?_)
  refine ls_assign (x := x7) (by kernel_rfl) (by kernel_rfl) ?_
  refine ls_assign (x := x9) (by kernel_rfl) (by kernel_rfl) ?_
  refine ls_nil ?_
  refine then_normal ?_
  refine fr_eq (b := ⟨([x0, x1, undef, undef, x7, x9, x1, x7, x0, x9, undef, undef, undef, undef, undef, undef, undef, undef, undef, undef, undef, undef, undef, undef, undef, undef, undef, undef, undef, undef, undef, undef, undef, undef, undef, undef, undef, undef, undef, undef, undef, undef, undef, undef, undef, undef, undef, undef, undef, undef] ++ [undef, undef, undef, undef, undef, undef, undef, undef, undef, undef, undef, undef, undef, undef, undef, undef, undef, undef, undef, undef, undef, undef, undef, undef, undef, undef, undef, undef, undef, undef, undef, undef, undef, undef, undef, undef, undef, undef, undef, undef, undef, undef, undef, undef, undef, undef, undef, undef, undef, undef] ++ [undef, undef, undef, undef, undef, undef, undef, undef, undef, undef, undef, undef, undef, undef, undef, undef, undef, undef, undef, undef, undef, undef, undef, undef, undef, undef, undef, undef, undef, undef, undef, undef, undef, undef, undef, undef, undef, undef, undef, undef, undef, undef, undef, undef, undef, undef, undef, undef, undef, undef] ++ [undef, undef, undef, undef, undef, undef, undef, undef, undef, undef, undef, undef, undef]).toArray, []⟩) (by kernel_rfl) ?_
  refine wp_seq ?_
  refine wp_seq ?_
  refine lwp_list ?_
  refine ls_move (x := x7) (by kernel_rfl) (by kernel_rfl) ?_
  refine ls_p (d := some 11) (by kernel_rfl) (by kernel_rfl) (p_sLt (by kernel_rfl) (by kernel_rfl) H) (fun x11 H => ?_)
  refine ls_move (x := x11) (by kernel_rfl) (by kernel_rfl) ?_
  refine ls_or [(), (), (), (), (), (), ()] (fun K a w => ∃ (D : Nat → Value) (x19 : Value), a = ⟨([x0, x1, undef, undef, x7, x9, x1, x7, x0, x9, x7, x11, x11, (D 0), (D 1), (D 2), (D 3), (D 4), (D 5), x19, undef, undef, undef, undef, undef, undef, undef, undef, undef, undef, undef, undef, undef, undef, undef, undef, undef, undef, undef, undef, undef, undef, undef, undef, undef, undef, undef, undef, undef, undef] ++ [undef, undef, undef, undef, undef, undef, undef, undef, undef, undef, undef, undef, undef, undef, undef, undef, undef, undef, undef, undef, undef, undef, undef, undef, undef, undef, undef, undef, undef, undef, undef, undef, undef, undef, undef, undef, undef, undef, undef, undef, undef, undef, undef, undef, undef, undef, undef, undef, undef, undef] ++ [undef, undef, undef, undef, undef, undef, undef, undef, undef, undef, undef, undef, undef, undef, undef, undef, undef, undef, undef, undef, undef, undef, undef, undef, undef, undef, undef, undef, undef, undef, undef, undef, undef, undef, undef, undef, undef, undef, undef, undef, undef, undef, undef, undef, undef, undef, undef, undef, undef, undef] ++ [undef, undef, undef, undef, undef, undef, undef, undef, undef, undef, undef, undef, undef]).toArray, []⟩ ∧ At w0 w h_1 ∧ K x19) H (fun hb_2 H => ?_) (fun hb_2 H => ?_) ?_
  · refine ls_move (x := x7) (by rw [hb_2]; kernel_rfl) (by kernel_rfl) ?_
    refine ls_move (x := x0) (by rw [hb_2]; kernel_rfl) (by kernel_rfl) ?_
    refine ls_p (d := some 15) (by kernel_rfl) (by rw [hb_2]; kernel_rfl) (p_nil (by kernel_rfl) H) (fun x15 H => ?_)
    refine ls_fr (b := ⟨([x0, x1, undef, undef, x7, x9, x1, x7, x0, x9, x7, x11, x11, x7, x0, x15, undef, undef, undef, undef, undef, undef, undef, undef, undef, undef, undef, undef, undef, undef, undef, undef, undef, undef, undef, undef, undef, undef, undef, undef, undef, undef, undef, undef, undef, undef, undef, undef, undef, undef] ++ [undef, undef, undef, undef, undef, undef, undef, undef, undef, undef, undef, undef, undef, undef, undef, undef, undef, undef, undef, undef, undef, undef, undef, undef, undef, undef, undef, undef, undef, undef, undef, undef, undef, undef, undef, undef, undef, undef, undef, undef, undef, undef, undef, undef, undef, undef, undef, undef, undef, undef] ++ [undef, undef, undef, undef, undef, undef, undef, undef, undef, undef, undef, undef, undef, undef, undef, undef, undef, undef, undef, undef, undef, undef, undef, undef, undef, undef, undef, undef, undef, undef, undef, undef, undef, undef, undef, undef, undef, undef, undef, undef, undef, undef, undef, undef, undef, undef, undef, undef, undef, undef] ++ [undef, undef, undef, undef, undef, undef, undef, undef, undef, undef, undef, undef, undef]).toArray, []⟩) (by kernel_rfl) ?_
    refine ls_p (d := some 16) (by kernel_rfl) (by rw [hb_2]; kernel_rfl) (p_off Tryd.underlying64 rfl (fun w => ⟨_, Tryd.sizeOf3 w⟩) rfl (by kernel_rfl) H) (fun x16 H => ?_)
    refine ls_y (d := some 17) (by kernel_rfl) (by rw [hb_2]; kernel_rfl) HA_1 (y_ld Tryd.isAgg3 (by kernel_rfl) H) (fun x17 H => ?_)
    refine ls_p (d := some 18) (by kernel_rfl) (by rw [hb_2]; kernel_rfl) (p_sGt (by kernel_rfl) (by kernel_rfl) H) (fun x18 H => ?_)
    refine ls_pick_f (y := x18) (by kernel_rfl) (by rw [hb_2]; kernel_rfl) (by kernel_rfl) ?_
    refine ls_nil ?_
    refine then_normal ?_
    exact ⟨(fun i => ([x7, x0, x15, x16, x17, x18]).getD i undef), x18, by kernel_rfl, HA_1, H⟩
  · refine ls_skip (d := some 13) (by kernel_rfl) (by rw [hb_2]; kernel_rfl) ?_
    refine ls_skip (d := some 14) (by kernel_rfl) (by rw [hb_2]; kernel_rfl) ?_
    refine ls_skip (d := some 15) (by kernel_rfl) (by rw [hb_2]; kernel_rfl) ?_
    refine ls_fr (b := ⟨([x0, x1, undef, undef, x7, x9, x1, x7, x0, x9, x7, x11, x11, undef, undef, undef, undef, undef, undef, undef, undef, undef, undef, undef, undef, undef, undef, undef, undef, undef, undef, undef, undef, undef, undef, undef, undef, undef, undef, undef, undef, undef, undef, undef, undef, undef, undef, undef, undef, undef] ++ [undef, undef, undef, undef, undef, undef, undef, undef, undef, undef, undef, undef, undef, undef, undef, undef, undef, undef, undef, undef, undef, undef, undef, undef, undef, undef, undef, undef, undef, undef, undef, undef, undef, undef, undef, undef, undef, undef, undef, undef, undef, undef, undef, undef, undef, undef, undef, undef, undef, undef] ++ [undef, undef, undef, undef, undef, undef, undef, undef, undef, undef, undef, undef, undef, undef, undef, undef, undef, undef, undef, undef, undef, undef, undef, undef, undef, undef, undef, undef, undef, undef, undef, undef, undef, undef, undef, undef, undef, undef, undef, undef, undef, undef, undef, undef, undef, undef, undef, undef, undef, undef] ++ [undef, undef, undef, undef, undef, undef, undef, undef, undef, undef, undef, undef, undef]).toArray, []⟩) (by kernel_rfl) ?_
    refine ls_skip (d := some 16) (by kernel_rfl) (by rw [hb_2]; kernel_rfl) ?_
    refine ls_skip (d := some 17) (by kernel_rfl) (by rw [hb_2]; kernel_rfl) ?_
    refine ls_skip (d := some 18) (by kernel_rfl) (by rw [hb_2]; kernel_rfl) ?_
    refine ls_pick_t (x := (.bool true)) (by kernel_rfl) (by rw [hb_2]; kernel_rfl) (by kernel_rfl) ?_
    refine ls_nil ?_
    refine then_normal ?_
    exact ⟨(fun i => ([undef, undef, undef, undef, undef, undef]).getD i undef), (.bool true), by kernel_rfl, HA_1, H⟩
  · rintro _ w_2 ⟨D, x19, rfl, HA_2, H⟩
    refine ls_nil ?_
    refine then_normal ?_
    refine fr_eq (b := ⟨([x0, x1, undef, undef, x7, x9, x1, x7, x0, x9, x7, x11, x11, (D 0), (D 1), (D 2), (D 3), (D 4), (D 5), x19, undef, undef, undef, undef, undef, undef, undef, undef, undef, undef, undef, undef, undef, undef, undef, undef, undef, undef, undef, undef, undef, undef, undef, undef, undef, undef, undef, undef, undef, undef] ++ [undef, undef, undef, undef, undef, undef, undef, undef, undef, undef, undef, undef, undef, undef, undef, undef, undef, undef, undef, undef, undef, undef, undef, undef, undef, undef, undef, undef, undef, undef, undef, undef, undef, undef, undef, undef, undef, undef, undef, undef, undef, undef, undef, undef, undef, undef, undef, undef, undef, undef] ++ [undef, undef, undef, undef, undef, undef, undef, undef, undef, undef, undef, undef, undef, undef, undef, undef, undef, undef, undef, undef, undef, undef, undef, undef, undef, undef, undef, undef, undef, undef, undef, undef, undef, undef, undef, undef, undef, undef, undef, undef, undef, undef, undef, undef, undef, undef, undef, undef, undef, undef] ++ [undef, undef, undef, undef, undef, undef, undef, undef, undef, undef, undef, undef, undef]).toArray, []⟩) (by kernel_rfl) ?_
    refine wp_if rfl H (fun H => ?_) (fun H => ?_)
    · refine wp_ret ?_
      refine then_ret ?_
      exact end0 (Tryd.results9) (by kernel_rfl) HA_2 H _ (.inr rfl)
    · refine wp_skip ?_
      refine then_normal ?_
      refine fr_eq (b := ⟨([x0, x1, undef, undef, x7, x9, x1, x7, x0, x9, x7, x11, x11, (D 0), (D 1), (D 2), (D 3), (D 4), (D 5), x19, undef, undef, undef, undef, undef, undef, undef, undef, undef, undef, undef, undef, undef, undef, undef, undef, undef, undef, undef, undef, undef, undef, undef, undef, undef, undef, undef, undef, undef, undef] ++ [undef, undef, undef, undef, undef, undef, undef, undef, undef, undef, undef, undef, undef, undef, undef, undef, undef, undef, undef, undef, undef, undef, undef, undef, undef, undef, undef, undef, undef, undef, undef, undef, undef, undef, undef, undef, undef, undef, undef, undef, undef, undef, undef, undef, undef, undef, undef, undef, undef, undef] ++ [undef, undef, undef, undef, undef, undef, undef, undef, undef, undef, undef, undef, undef, undef, undef, undef, undef, undef, undef, undef, undef, undef, undef, undef, undef, undef, undef, undef, undef, undef, undef, undef, undef, undef, undef, undef, undef, undef, undef, undef, undef, undef, undef, undef, undef, undef, undef, undef, undef, undef] ++ [undef, undef, undef, undef, undef, undef, undef, undef, undef, undef, undef, undef, undef]).toArray, []⟩) (by kernel_rfl) ?_
      refine wp_seq ?_
      refine wp_seq ?_
      refine lwp_list ?_
      refine ls_move (x := x9) (by kernel_rfl) (by kernel_rfl) ?_
      refine ls_p (d := some 21) (by kernel_rfl) (by kernel_rfl) (p_nil (by kernel_rfl) H) (fun x21 H => ?_)
      refine ls_p (d := some 22) (by kernel_rfl) (by kernel_rfl) (p_off Tryd.underlying38 rfl (fun w => ⟨_, Tryd.sizeOf4 w⟩) rfl (by kernel_rfl) H) (fun x22 H => ?_)
      refine ls_y (d := some 23) (by kernel_rfl) (by kernel_rfl) HA_2 (y_ld Tryd.isAgg4 (by kernel_rfl) H) (fun x23 H => ?_)
      refine ls_move (x := x23) (by kernel_rfl) (by kernel_rfl) ?_
      refine ls_and [(), (), (), (), ()] (fun K a w => ∃ (D_1 : Nat → Value) (x29 : Value), a = ⟨([x0, x1, undef, undef, x7, x9, x1, x7, x0, x9, x7, x11, x11, (D 0), (D 1), (D 2), (D 3), (D 4), (D 5), x19, x9, x21, x22, x23, x23, (D_1 0), (D_1 1), (D_1 2), (D_1 3), x29, undef, undef, undef, undef, undef, undef, undef, undef, undef, undef, undef, undef, undef, undef, undef, undef, undef, undef, undef, undef] ++ [undef, undef, undef, undef, undef, undef, undef, undef, undef, undef, undef, undef, undef, undef, undef, undef, undef, undef, undef, undef, undef, undef, undef, undef, undef, undef, undef, undef, undef, undef, undef, undef, undef, undef, undef, undef, undef, undef, undef, undef, undef, undef, undef, undef, undef, undef, undef, undef, undef, undef] ++ [undef, undef, undef, undef, undef, undef, undef, undef, undef, undef, undef, undef, undef, undef, undef, undef, undef, undef, undef, undef, undef, undef, undef, undef, undef, undef, undef, undef, undef, undef, undef, undef, undef, undef, undef, undef, undef, undef, undef, undef, undef, undef, undef, undef, undef, undef, undef, undef, undef, undef] ++ [undef, undef, undef, undef, undef, undef, undef, undef, undef, undef, undef, undef, undef]).toArray, []⟩ ∧ At w0 w h_1 ∧ K x29) H (fun hb_1 H => ?_) (fun hb_1 H => ?_) ?_
      · refine ls_move (x := x0) (by rw [hb_1]; kernel_rfl) (by kernel_rfl) ?_
        refine ls_fr (b := ⟨([x0, x1, undef, undef, x7, x9, x1, x7, x0, x9, x7, x11, x11, (D 0), (D 1), (D 2), (D 3), (D 4), (D 5), x19, x9, x21, x22, x23, x23, x0, undef, undef, undef, undef, undef, undef, undef, undef, undef, undef, undef, undef, undef, undef, undef, undef, undef, undef, undef, undef, undef, undef, undef, undef] ++ [undef, undef, undef, undef, undef, undef, undef, undef, undef, undef, undef, undef, undef, undef, undef, undef, undef, undef, undef, undef, undef, undef, undef, undef, undef, undef, undef, undef, undef, undef, undef, undef, undef, undef, undef, undef, undef, undef, undef, undef, undef, undef, undef, undef, undef, undef, undef, undef, undef, undef] ++ [undef, undef, undef, undef, undef, undef, undef, undef, undef, undef, undef, undef, undef, undef, undef, undef, undef, undef, undef, undef, undef, undef, undef, undef, undef, undef, undef, undef, undef, undef, undef, undef, undef, undef, undef, undef, undef, undef, undef, undef, undef, undef, undef, undef, undef, undef, undef, undef, undef, undef] ++ [undef, undef, undef, undef, undef, undef, undef, undef, undef, undef, undef, undef, undef]).toArray, []⟩) (by kernel_rfl) ?_
        refine ls_p (d := some 26) (by kernel_rfl) (by rw [hb_1]; kernel_rfl) (p_nil (by kernel_rfl) H) (fun x26 H => ?_)
        refine ls_p (d := some 27) (by kernel_rfl) (by rw [hb_1]; kernel_rfl) (p_off Tryd.underlying64 rfl (fun w => ⟨_, Tryd.sizeOf4 w⟩) rfl (by kernel_rfl) H) (fun x27 H => ?_)
        refine ls_y (d := some 28) (by kernel_rfl) (by rw [hb_1]; kernel_rfl) HA_2 (y_ld Tryd.isAgg4 (by kernel_rfl) H) (fun x28 H => ?_)
        refine ls_pick_t (x := x28) (by kernel_rfl) (by rw [hb_1]; kernel_rfl) (by kernel_rfl) ?_
        refine ls_nil ?_
        refine then_normal ?_
        exact ⟨(fun i => ([x0, x26, x27, x28]).getD i undef), x28, by kernel_rfl, HA_2, H⟩
      · refine ls_skip (d := some 25) (by kernel_rfl) (by rw [hb_1]; kernel_rfl) ?_
        refine ls_fr (b := ⟨([x0, x1, undef, undef, x7, x9, x1, x7, x0, x9, x7, x11, x11, (D 0), (D 1), (D 2), (D 3), (D 4), (D 5), x19, x9, x21, x22, x23, x23, undef, undef, undef, undef, undef, undef, undef, undef, undef, undef, undef, undef, undef, undef, undef, undef, undef, undef, undef, undef, undef, undef, undef, undef, undef] ++ [undef, undef, undef, undef, undef, undef, undef, undef, undef, undef, undef, undef, undef, undef, undef, undef, undef, undef, undef, undef, undef, undef, undef, undef, undef, undef, undef, undef, undef, undef, undef, undef, undef, undef, undef, undef, undef, undef, undef, undef, undef, undef, undef, undef, undef, undef, undef, undef, undef, undef] ++ [undef, undef, undef, undef, undef, undef, undef, undef, undef, undef, undef, undef, undef, undef, undef, undef, undef, undef, undef, undef, undef, undef, undef, undef, undef, undef, undef, undef, undef, undef, undef, undef, undef, undef, undef, undef, undef, undef, undef, undef, undef, undef, undef, undef, undef, undef, undef, undef, undef, undef] ++ [undef, undef, undef, undef, undef, undef, undef, undef, undef, undef, undef, undef, undef]).toArray, []⟩) (by kernel_rfl) ?_
        refine ls_skip (d := some 26) (by kernel_rfl) (by rw [hb_1]; kernel_rfl) ?_
        refine ls_skip (d := some 27) (by kernel_rfl) (by rw [hb_1]; kernel_rfl) ?_
        refine ls_skip (d := some 28) (by kernel_rfl) (by rw [hb_1]; kernel_rfl) ?_
        refine ls_pick_f (y := (.bool false)) (by kernel_rfl) (by rw [hb_1]; kernel_rfl) (by kernel_rfl) ?_
        refine ls_nil ?_
        refine then_normal ?_
        exact ⟨(fun i => ([undef, undef, undef, undef]).getD i undef), (.bool false), by kernel_rfl, HA_2, H⟩
      · rintro _ w_3 ⟨D_1, x29, rfl, HA_3, H⟩
        refine ls_nil ?_
        refine then_normal ?_
        refine fr_eq (b := ⟨([x0, x1, undef, undef, x7, x9, x1, x7, x0, x9, x7, x11, x11, (D 0), (D 1), (D 2), (D 3), (D 4), (D 5), x19, x9, x21, x22, x23, x23, (D_1 0), (D_1 1), (D_1 2), (D_1 3), x29, undef, undef, undef, undef, undef, undef, undef, undef, undef, undef, undef, undef, undef, undef, undef, undef, undef, undef, undef, undef] ++ [undef, undef, undef, undef, undef, undef, undef, undef, undef, undef, undef, undef, undef, undef, undef, undef, undef, undef, undef, undef, undef, undef, undef, undef, undef, undef, undef, undef, undef, undef, undef, undef, undef, undef, undef, undef, undef, undef, undef, undef, undef, undef, undef, undef, undef, undef, undef, undef, undef, undef] ++ [undef, undef, undef, undef, undef, undef, undef, undef, undef, undef, undef, undef, undef, undef, undef, undef, undef, undef, undef, undef, undef, undef, undef, undef, undef, undef, undef, undef, undef, undef, undef, undef, undef, undef, undef, undef, undef, undef, undef, undef, undef, undef, undef, undef, undef, undef, undef, undef, undef, undef] ++ [undef, undef, undef, undef, undef, undef, undef, undef, undef, undef, undef, undef, undef]).toArray, []⟩) (by kernel_rfl) ?_
        refine wp_join (fun a w => ∃ (D_2 : Nat → Value) (h_2 : Heap), a = ⟨([x0, x1, undef, undef, x7, x9, x1, x7, x0, x9, x7, x11, x11, (D 0), (D 1), (D 2), (D 3), (D 4), (D 5), x19, x9, x21, x22, x23, x23, (D_1 0), (D_1 1), (D_1 2), (D_1 3), x29, (D_2 0), (D_2 1), undef, undef, undef, undef, undef, undef, undef, undef, undef, undef, undef, undef, undef, undef, undef, undef, undef, undef] ++ [undef, undef, undef, undef, undef, undef, undef, undef, undef, undef, undef, undef, undef, undef, undef, undef, undef, undef, undef, undef, undef, undef, undef, undef, undef, undef, undef, undef, undef, undef, undef, undef, undef, undef, undef, undef, undef, undef, undef, undef, undef, undef, undef, undef, undef, undef, undef, undef, undef, undef] ++ [undef, undef, undef, undef, undef, undef, undef, undef, undef, undef, undef, undef, undef, undef, undef, undef, undef, undef, undef, undef, undef, undef, undef, undef, undef, undef, undef, undef, undef, undef, undef, undef, undef, undef, undef, undef, undef, undef, undef, undef, undef, undef, undef, undef, undef, undef, undef, undef, undef, undef] ++ [undef, undef, undef, undef, undef, undef, undef, undef, undef, undef, undef, undef, undef]).toArray, []⟩ ∧ At w0 w h_2 ∧ screen_Screen_Put_j1 R x0 x1 x7 x9 h_2) ?_ ?_
        · refine wp_if rfl H (fun H => ?_) (fun H => ?_)
          · refine lwp_list ?_
            refine ls_move (x := x0) (by kernel_rfl) (by kernel_rfl) ?_
            refine ls_d (d := some 31) (by kernel_rfl) (by kernel_rfl) HA_3 (d_call (by kernel_rfl) (by kernel_rfl) H) (fun x31 h_16 w_24 H HA_24 => ?_)
            refine ls_nil ?_
            exact ⟨(fun i => ([x0, x31]).getD i undef), h_16, by kernel_rfl, HA_24, H⟩
          · refine wp_skip ?_
            exact ⟨(fun i => ([undef, undef]).getD i undef), h_1, by kernel_rfl, HA_3, H⟩
        · rintro _ w_4 ⟨D_2, h_2, rfl, HA_4, H⟩
          unfold screen_Screen_Put_j1 at H
          refine then_normal ?_
          refine fr_eq (b := ⟨([x0, x1, undef, undef, x7, x9, x1, x7, x0, x9, x7, x11, x11, (D 0), (D 1), (D 2), (D 3), (D 4), (D 5), x19, x9, x21, x22, x23, x23, (D_1 0), (D_1 1), (D_1 2), (D_1 3), x29, (D_2 0), (D_2 1), undef, undef, undef, undef, undef, undef, undef, undef, undef, undef, undef, undef, undef, undef, undef, undef, undef, undef] ++ [undef, undef, undef, undef, undef, undef, undef, undef, undef, undef, undef, undef, undef, undef, undef, undef, undef, undef, undef, undef, undef, undef, undef, undef, undef, undef, undef, undef, undef, undef, undef, undef, undef, undef, undef, undef, undef, undef, undef, undef, undef, undef, undef, undef, undef, undef, undef, undef, undef, undef] ++ [undef, undef, undef, undef, undef, undef, undef, undef, undef, undef, undef, undef, undef, undef, undef, undef, undef, undef, undef, undef, undef, undef, undef, undef, undef, undef, undef, undef, undef, undef, undef, undef, undef, undef, undef, undef, undef, undef, undef, undef, undef, undef, undef, undef, undef, undef, undef, undef, undef, undef] ++ [undef, undef, undef, undef, undef, undef, undef, undef, undef, undef, undef, undef, undef]).toArray, []⟩) (by kernel_rfl) ?_
          refine wp_seq ?_
          refine wp_seq ?_
          refine lwp_qt (by kernel_rfl) (by kernel_rfl) HA_4 ?_
          refine lq_move (x := x9) (by kernel_rfl) (by kernel_rfl) ?_
          refine lq_p (d := some 33) (by kernel_rfl) (by kernel_rfl) (p_nil (by kernel_rfl) H) (fun x33 H => ?_)
          refine lq_p (d := some 34) (by kernel_rfl) (by kernel_rfl) (p_off Tryd.underlying38 rfl (fun w => ⟨_, Tryd.sizeOf3 w⟩) rfl (by kernel_rfl) H) (fun x34 H => ?_)
          refine lq_y (d := some 35) (by kernel_rfl) (by kernel_rfl) HA_4 (y_ld Tryd.isAgg3 (by kernel_rfl) H) (fun x35 H => ?_)
          refine lq_move (x := x7) (by kernel_rfl) (by kernel_rfl) ?_
          refine lq_p (d := some 37) (by kernel_rfl) (by kernel_rfl) (p_add (by kernel_rfl) (by kernel_rfl) H) (fun x37 H => ?_)
          refine lq_fr (b := ⟨([x0, x1, undef, undef, x7, x9, x1, x7, x0, x9, x7, x11, x11, (D 0), (D 1), (D 2), (D 3), (D 4), (D 5), x19, x9, x21, x22, x23, x23, (D_1 0), (D_1 1), (D_1 2), (D_1 3), x29, (D_2 0), (D_2 1), x9, x33, x34, x35, x7, x37, undef, undef, undef, undef, undef, undef, undef, undef, undef, undef, undef, undef] ++ [undef, undef, undef, undef, undef, undef, undef, undef, undef, undef, undef, undef, undef, undef, undef, undef, undef, undef, undef, undef, undef, undef, undef, undef, undef, undef, undef, undef, undef, undef, undef, undef, undef, undef, undef, undef, undef, undef, undef, undef, undef, undef, undef, undef, undef, undef, undef, undef, undef, undef] ++ [undef, undef, undef, undef, undef, undef, undef, undef, undef, undef, undef, undef, undef, undef, undef, undef, undef, undef, undef, undef, undef, undef, undef, undef, undef, undef, undef, undef, undef, undef, undef, undef, undef, undef, undef, undef, undef, undef, undef, undef, undef, undef, undef, undef, undef, undef, undef, undef, undef, undef] ++ [undef, undef, undef, undef, undef, undef, undef, undef, undef, undef, undef, undef, undef]).toArray, []⟩) (by kernel_rfl) ?_
          refine lq_move (x := x0) (by kernel_rfl) (by kernel_rfl) ?_
          refine lq_p (d := some 39) (by kernel_rfl) (by kernel_rfl) (p_nil (by kernel_rfl) H) (fun x39 H => ?_)
          refine lq_p (d := some 40) (by kernel_rfl) (by kernel_rfl) (p_off Tryd.underlying64 rfl (fun w => ⟨_, Tryd.sizeOf3 w⟩) rfl (by kernel_rfl) H) (fun x40 H => ?_)
          refine lq_y (d := some 41) (by kernel_rfl) (by kernel_rfl) HA_4 (y_ld Tryd.isAgg3 (by kernel_rfl) H) (fun x41 H => ?_)
          refine lq_p (d := some 42) (by kernel_rfl) (by kernel_rfl) (p_sGt (by kernel_rfl) (by kernel_rfl) H) (fun x42 H => ?_)
          refine lq_move (x := x42) (by kernel_rfl) (by kernel_rfl) ?_
          refine lq_fr (b := ⟨([x0, x1, undef, undef, x7, x9, x1, x7, x0, x9, x7, x11, x11, (D 0), (D 1), (D 2), (D 3), (D 4), (D 5), x19, x9, x21, x22, x23, x23, (D_1 0), (D_1 1), (D_1 2), (D_1 3), x29, (D_2 0), (D_2 1), x9, x33, x34, x35, x7, x37, x0, x39, x40, x41, x42, x42, undef, undef, undef, undef, undef, undef] ++ [undef, undef, undef, undef, undef, undef, undef, undef, undef, undef, undef, undef, undef, undef, undef, undef, undef, undef, undef, undef, undef, undef, undef, undef, undef, undef, undef, undef, undef, undef, undef, undef, undef, undef, undef, undef, undef, undef, undef, undef, undef, undef, undef, undef, undef, undef, undef, undef, undef, undef] ++ [undef, undef, undef, undef, undef, undef, undef, undef, undef, undef, undef, undef, undef, undef, undef, undef, undef, undef, undef, undef, undef, undef, undef, undef, undef, undef, undef, undef, undef, undef, undef, undef, undef, undef, undef, undef, undef, undef, undef, undef, undef, undef, undef, undef, undef, undef, undef, undef, undef, undef] ++ [undef, undef, undef, undef, undef, undef, undef, undef, undef, undef, undef, undef, undef]).toArray, []⟩) (by kernel_rfl) ?_
          refine lq_and [(), (), (), (), ()] (fun K a => ∃ (D_3 : Nat → Value) (x48 : Value), a = ⟨([x0, x1, undef, undef, x7, x9, x1, x7, x0, x9, x7, x11, x11, (D 0), (D 1), (D 2), (D 3), (D 4), (D 5), x19, x9, x21, x22, x23, x23, (D_1 0), (D_1 1), (D_1 2), (D_1 3), x29, (D_2 0), (D_2 1), x9, x33, x34, x35, x7, x37, x0, x39, x40, x41, x42, x42, (D_3 0), (D_3 1), (D_3 2), (D_3 3), x48, undef] ++ [undef, undef, undef, undef, undef, undef, undef, undef, undef, undef, undef, undef, undef, undef, undef, undef, undef, undef, undef, undef, undef, undef, undef, undef, undef, undef, undef, undef, undef, undef, undef, undef, undef, undef, undef, undef, undef, undef, undef, undef, undef, undef, undef, undef, undef, undef, undef, undef, undef, undef] ++ [undef, undef, undef, undef, undef, undef, undef, undef, undef, undef, undef, undef, undef, undef, undef, undef, undef, undef, undef, undef, undef, undef, undef, undef, undef, undef, undef, undef, undef, undef, undef, undef, undef, undef, undef, undef, undef, undef, undef, undef, undef, undef, undef, undef, undef, undef, undef, undef, undef, undef] ++ [undef, undef, undef, undef, undef, undef, undef, undef, undef, undef, undef, undef, undef]).toArray, []⟩ ∧ K x48) H (fun hb H => ?_) (fun hb H => ?_) ?_
          · refine lq_move (x := x0) (by rw [hb]; kernel_rfl) (by kernel_rfl) ?_
            refine lq_p (d := some 45) (by kernel_rfl) (by rw [hb]; kernel_rfl) (p_nil (by kernel_rfl) H) (fun x45 H => ?_)
            refine lq_p (d := some 46) (by kernel_rfl) (by rw [hb]; kernel_rfl) (p_off Tryd.underlying64 rfl (fun w => ⟨_, Tryd.sizeOf4 w⟩) rfl (by kernel_rfl) H) (fun x46 H => ?_)
            refine lq_y (d := some 47) (by kernel_rfl) (by rw [hb]; kernel_rfl) HA_4 (y_ld Tryd.isAgg4 (by kernel_rfl) H) (fun x47 H => ?_)
            refine lq_pick_t (x := x47) (by kernel_rfl) (by rw [hb]; kernel_rfl) (by kernel_rfl) ?_
            refine lq_nil ?_
            exact ⟨(fun i => ([x0, x45, x46, x47]).getD i undef), x47, by kernel_rfl, H⟩
          · refine lq_skip (d := some 44) (by kernel_rfl) (by rw [hb]; kernel_rfl) ?_
            refine lq_skip (d := some 45) (by kernel_rfl) (by rw [hb]; kernel_rfl) ?_
            refine lq_skip (d := some 46) (by kernel_rfl) (by rw [hb]; kernel_rfl) ?_
            refine lq_skip (d := some 47) (by kernel_rfl) (by rw [hb]; kernel_rfl) ?_
            refine lq_pick_f (y := (.bool false)) (by kernel_rfl) (by rw [hb]; kernel_rfl) (by kernel_rfl) ?_
            refine lq_nil ?_
            exact ⟨(fun i => ([undef, undef, undef, undef]).getD i undef), (.bool false), by kernel_rfl, H⟩
          · rintro _ ⟨D_3, x48, rfl, H⟩
            refine lq_nil ?_
            intro w_5 HA_5
            refine then_normal ?_
            refine fr_eq (b := ⟨([x0, x1, undef, undef, x7, x9, x1, x7, x0, x9, x7, x11, x11, (D 0), (D 1), (D 2), (D 3), (D 4), (D 5), x19, x9, x21, x22, x23, x23, (D_1 0), (D_1 1), (D_1 2), (D_1 3), x29, (D_2 0), (D_2 1), x9, x33, x34, x35, x7, x37, x0, x39, x40, x41, x42, x42, (D_3 0), (D_3 1), (D_3 2), (D_3 3), x48, undef] ++ [undef, undef, undef, undef, undef, undef, undef, undef, undef, undef, undef, undef, undef, undef, undef, undef, undef, undef, undef, undef, undef, undef, undef, undef, undef, undef, undef, undef, undef, undef, undef, undef, undef, undef, undef, undef, undef, undef, undef, undef, undef, undef, undef, undef, undef, undef, undef, undef, undef, undef] ++ [undef, undef, undef, undef, undef, undef, undef, undef, undef, undef, undef, undef, undef, undef, undef, undef, undef, undef, undef, undef, undef, undef, undef, undef, undef, undef, undef, undef, undef, undef, undef, undef, undef, undef, undef, undef, undef, undef, undef, undef, undef, undef, undef, undef, undef, undef, undef, undef, undef, undef] ++ [undef, undef, undef, undef, undef, undef, undef, undef, undef, undef, undef, undef, undef]).toArray, []⟩) (by kernel_rfl) ?_
            refine wp_join (fun a w => ∃ (D_4 : Nat → Value) (h_3 : Heap), a = ⟨([x0, x1, undef, undef, x7, x9, x1, x7, x0, x9, x7, x11, x11, (D 0), (D 1), (D 2), (D 3), (D 4), (D 5), x19, x9, x21, x22, x23, x23, (D_1 0), (D_1 1), (D_1 2), (D_1 3), x29, (D_2 0), (D_2 1), x9, x33, x34, x35, x7, x37, x0, x39, x40, x41, x42, x42, (D_3 0), (D_3 1), (D_3 2), (D_3 3), x48, (D_4 0)] ++ [(D_4 1), (D_4 2), (D_4 3), (D_4 4), (D_4 5), (D_4 6), (D_4 7), (D_4 8), (D_4 9), (D_4 10), (D_4 11), (D_4 12), (D_4 13), (D_4 14), (D_4 15), (D_4 16), (D_4 17), (D_4 18), (D_4 19), undef, undef, undef, undef, undef, undef, undef, undef, undef, undef, undef, undef, undef, undef, undef, undef, undef, undef, undef, undef, undef, undef, undef, undef, undef, undef, undef, undef, undef, undef, undef] ++ [undef, undef, undef, undef, undef, undef, undef, undef, undef, undef, undef, undef, undef, undef, undef, undef, undef, undef, undef, undef, undef, undef, undef, undef, undef, undef, undef, undef, undef, undef, undef, undef, undef, undef, undef, undef, undef, undef, undef, undef, undef, undef, undef, undef, undef, undef, undef, undef, undef, undef] ++ [undef, undef, undef, undef, undef, undef, undef, undef, undef, undef, undef, undef, undef]).toArray, []⟩ ∧ At w0 w h_3 ∧ screen_Screen_Put_j2 R x0 x1 x7 x9 h_3) ?_ ?_
            · refine wp_if rfl H (fun H => ?_) (fun H => ?_)
              · refine lwp_list ?_
                refine ls_move (x := x0) (by kernel_rfl) (by kernel_rfl) ?_
                refine ls_d (d := some 50) (by kernel_rfl) (by kernel_rfl) HA_5 (d_call (by kernel_rfl) (by kernel_rfl) H) (fun x50 h_14 w_21 H HA_21 => ?_)
                refine ls_nil ?_
                exact ⟨(fun i => ([x0, x50, undef, undef, undef, undef, undef, undef, undef, undef, undef, undef, undef, undef, undef, undef, undef, undef, undef, undef]).getD i undef), h_14, by kernel_rfl, HA_21, H⟩
              · refine wp_seq ?_
                refine lwp_qt (by kernel_rfl) (by kernel_rfl) HA_5 ?_
                refine lq_move (x := x9) (by kernel_rfl) (by kernel_rfl) ?_
                refine lq_p (d := some 52) (by kernel_rfl) (by kernel_rfl) (p_nil (by kernel_rfl) H) (fun x52 H => ?_)
                refine lq_p (d := some 53) (by kernel_rfl) (by kernel_rfl) (p_off Tryd.underlying38 rfl (fun w => ⟨_, Tryd.sizeOf3 w⟩) rfl (by kernel_rfl) H) (fun x53 H => ?_)
                refine lq_y (d := some 54) (by kernel_rfl) (by kernel_rfl) HA_5 (y_ld Tryd.isAgg3 (by kernel_rfl) H) (fun x54 H => ?_)
                refine lq_move (x := x7) (by kernel_rfl) (by kernel_rfl) ?_
                refine lq_p (d := some 56) (by kernel_rfl) (by kernel_rfl) (p_add (by kernel_rfl) (by kernel_rfl) H) (fun x56 H => ?_)
                refine lq_fr (b := ⟨([x0, x1, undef, undef, x7, x9, x1, x7, x0, x9, x7, x11, x11, (D 0), (D 1), (D 2), (D 3), (D 4), (D 5), x19, x9, x21, x22, x23, x23, (D_1 0), (D_1 1), (D_1 2), (D_1 3), x29, (D_2 0), (D_2 1), x9, x33, x34, x35, x7, x37, x0, x39, x40, x41, x42, x42, (D_3 0), (D_3 1), (D_3 2), (D_3 3), x48, undef] ++ [undef, x9, x52, x53, x54, x7, x56, undef, undef, undef, undef, undef, undef, undef, undef, undef, undef, undef, undef, undef, undef, undef, undef, undef, undef, undef, undef, undef, undef, undef, undef, undef, undef, undef, undef, undef, undef, undef, undef, undef, undef, undef, undef, undef, undef, undef, undef, undef, undef, undef] ++ [undef, undef, undef, undef, undef, undef, undef, undef, undef, undef, undef, undef, undef, undef, undef, undef, undef, undef, undef, undef, undef, undef, undef, undef, undef, undef, undef, undef, undef, undef, undef, undef, undef, undef, undef, undef, undef, undef, undef, undef, undef, undef, undef, undef, undef, undef, undef, undef, undef, undef] ++ [undef, undef, undef, undef, undef, undef, undef, undef, undef, undef, undef, undef, undef]).toArray, []⟩) (by kernel_rfl) ?_
                refine lq_move (x := x0) (by kernel_rfl) (by kernel_rfl) ?_
                refine lq_p (d := some 58) (by kernel_rfl) (by kernel_rfl) (p_nil (by kernel_rfl) H) (fun x58 H => ?_)
                refine lq_p (d := some 59) (by kernel_rfl) (by kernel_rfl) (p_off Tryd.underlying64 rfl (fun w => ⟨_, Tryd.sizeOf3 w⟩) rfl (by kernel_rfl) H) (fun x59 H => ?_)
                refine lq_y (d := some 60) (by kernel_rfl) (by kernel_rfl) HA_5 (y_ld Tryd.isAgg3 (by kernel_rfl) H) (fun x60 H => ?_)
                refine lq_p (d := some 61) (by kernel_rfl) (by kernel_rfl) (p_sGt (by kernel_rfl) (by kernel_rfl) H) (fun x61 H => ?_)
                refine lq_nil ?_
                intro w_22 HA_22
                refine then_normal ?_
                refine fr_eq (b := ⟨([x0, x1, undef, undef, x7, x9, x1, x7, x0, x9, x7, x11, x11, (D 0), (D 1), (D 2), (D 3), (D 4), (D 5), x19, x9, x21, x22, x23, x23, (D_1 0), (D_1 1), (D_1 2), (D_1 3), x29, (D_2 0), (D_2 1), x9, x33, x34, x35, x7, x37, x0, x39, x40, x41, x42, x42, (D_3 0), (D_3 1), (D_3 2), (D_3 3), x48, undef] ++ [undef, x9, x52, x53, x54, x7, x56, x0, x58, x59, x60, x61, undef, undef, undef, undef, undef, undef, undef, undef, undef, undef, undef, undef, undef, undef, undef, undef, undef, undef, undef, undef, undef, undef, undef, undef, undef, undef, undef, undef, undef, undef, undef, undef, undef, undef, undef, undef, undef, undef] ++ [undef, undef, undef, undef, undef, undef, undef, undef, undef, undef, undef, undef, undef, undef, undef, undef, undef, undef, undef, undef, undef, undef, undef, undef, undef, undef, undef, undef, undef, undef, undef, undef, undef, undef, undef, undef, undef, undef, undef, undef, undef, undef, undef, undef, undef, undef, undef, undef, undef, undef] ++ [undef, undef, undef, undef, undef, undef, undef, undef, undef, undef, undef, undef, undef]).toArray, []⟩) (by kernel_rfl) ?_
                refine wp_if rfl H (fun H => ?_) (fun H => ?_)
                · refine lwp_list ?_
                  refine ls_move (x := x9) (by kernel_rfl) (by kernel_rfl) ?_
                  refine ls_p (d := some 63) (by kernel_rfl) (by kernel_rfl) (p_nil (by kernel_rfl) H) (fun x63 H => ?_)
                  refine ls_p (d := some 64) (by kernel_rfl) (by kernel_rfl) (p_off Tryd.underlying38 rfl (fun w => ⟨_, Tryd.sizeOf3 w⟩) rfl (by kernel_rfl) H) (fun x64 H => ?_)
                  refine ls_y (d := some 65) (by kernel_rfl) (by kernel_rfl) HA_22 (y_ld Tryd.isAgg3 (by kernel_rfl) H) (fun x65 H => ?_)
                  refine ls_p (d := some 66) (by kernel_rfl) (by kernel_rfl) (p_sub (by kernel_rfl) (by kernel_rfl) H) (fun x66 H => ?_)
                  refine ls_p (d := some 67) (by kernel_rfl) (by kernel_rfl) (p_nil (by kernel_rfl) H) (fun x67 H => ?_)
                  refine ls_fr (b := ⟨([x0, x1, undef, undef, x7, x9, x1, x7, x0, x9, x7, x11, x11, (D 0), (D 1), (D 2), (D 3), (D 4), (D 5), x19, x9, x21, x22, x23, x23, (D_1 0), (D_1 1), (D_1 2), (D_1 3), x29, (D_2 0), (D_2 1), x9, x33, x34, x35, x7, x37, x0, x39, x40, x41, x42, x42, (D_3 0), (D_3 1), (D_3 2), (D_3 3), x48, undef] ++ [undef, x9, x52, x53, x54, x7, x56, x0, x58, x59, x60, x61, x9, x63, x64, x65, x66, x67, undef, undef, undef, undef, undef, undef, undef, undef, undef, undef, undef, undef, undef, undef, undef, undef, undef, undef, undef, undef, undef, undef, undef, undef, undef, undef, undef, undef, undef, undef, undef, undef] ++ [undef, undef, undef, undef, undef, undef, undef, undef, undef, undef, undef, undef, undef, undef, undef, undef, undef, undef, undef, undef, undef, undef, undef, undef, undef, undef, undef, undef, undef, undef, undef, undef, undef, undef, undef, undef, undef, undef, undef, undef, undef, undef, undef, undef, undef, undef, undef, undef, undef, undef] ++ [undef, undef, undef, undef, undef, undef, undef, undef, undef, undef, undef, undef, undef]).toArray, []⟩) (by kernel_rfl) ?_
                  refine ls_p (d := some 68) (by kernel_rfl) (by kernel_rfl) (p_off Tryd.underlying38 rfl (fun w => ⟨_, Tryd.sizeOf3 w⟩) rfl (by kernel_rfl) H) (fun x68 H => ?_)
                  refine ls_d (d := none) (by kernel_rfl) (by kernel_rfl) HA_22 (d_st Tryd.sizeOf3 (by kernel_rfl) (by kernel_rfl) H) (fun _ h_15 w_23 H HA_23 => ?_)
                  refine ls_nil ?_
                  exact ⟨(fun i => ([undef, undef, x9, x52, x53, x54, x7, x56, x0, x58, x59, x60, x61, x9, x63, x64, x65, x66, x67, x68]).getD i undef), h_15, by kernel_rfl, HA_23, H⟩
                · refine wp_skip ?_
                  exact ⟨(fun i => ([undef, undef, x9, x52, x53, x54, x7, x56, x0, x58, x59, x60, x61, undef, undef, undef, undef, undef, undef, undef]).getD i undef), h_2, by kernel_rfl, HA_22, H⟩
            · rintro _ w_6 ⟨D_4, h_3, rfl, HA_6, H⟩
              unfold screen_Screen_Put_j2 at H
              refine then_normal ?_
              refine fr_eq (b := ⟨([x0, x1, undef, undef, x7, x9, x1, x7, x0, x9, x7, x11, x11, (D 0), (D 1), (D 2), (D 3), (D 4), (D 5), x19, x9, x21, x22, x23, x23, (D_1 0), (D_1 1), (D_1 2), (D_1 3), x29, (D_2 0), (D_2 1), x9, x33, x34, x35, x7, x37, x0, x39, x40, x41, x42, x42, (D_3 0), (D_3 1), (D_3 2), (D_3 3), x48, (D_4 0)] ++ [(D_4 1), (D_4 2), (D_4 3), (D_4 4), (D_4 5), (D_4 6), (D_4 7), (D_4 8), (D_4 9), (D_4 10), (D_4 11), (D_4 12), (D_4 13), (D_4 14), (D_4 15), (D_4 16), (D_4 17), (D_4 18), (D_4 19), undef, undef, undef, undef, undef, undef, undef, undef, undef, undef, undef, undef, undef, undef, undef, undef, undef, undef, undef, undef, undef, undef, undef, undef, undef, undef, undef, undef, undef, undef, undef] ++ [undef, undef, undef, undef, undef, undef, undef, undef, undef, undef, undef, undef, undef, undef, undef, undef, undef, undef, undef, undef, undef, undef, undef, undef, undef, undef, undef, undef, undef, undef, undef, undef, undef, undef, undef, undef, undef, undef, undef, undef, undef, undef, undef, undef, undef, undef, undef, undef, undef, undef] ++ [undef, undef, undef, undef, undef, undef, undef, undef, undef, undef, undef, undef, undef]).toArray, []⟩) (by kernel_rfl) ?_
              refine wp_seq ?_
              refine wp_seq ?_
              refine lwp_list ?_
              refine ls_move (x := x0) (by kernel_rfl) (by kernel_rfl) ?_
              refine ls_p (d := some 70) (by kernel_rfl) (by kernel_rfl) (p_nil (by kernel_rfl) H) (fun x70 H => ?_)
              refine ls_p (d := some 71) (by kernel_rfl) (by kernel_rfl) (p_off Tryd.underlying64 rfl (fun w => ⟨_, Tryd.sizeOf4 w⟩) rfl (by kernel_rfl) H) (fun x71 H => ?_)
              refine ls_y (d := some 72) (by kernel_rfl) (by kernel_rfl) HA_6 (y_ld Tryd.isAgg4 (by kernel_rfl) H) (fun x72 H => ?_)
              refine ls_nil ?_
              refine then_normal ?_
              refine fr_eq (b := ⟨([x0, x1, undef, undef, x7, x9, x1, x7, x0, x9, x7, x11, x11, (D 0), (D 1), (D 2), (D 3), (D 4), (D 5), x19, x9, x21, x22, x23, x23, (D_1 0), (D_1 1), (D_1 2), (D_1 3), x29, (D_2 0), (D_2 1), x9, x33, x34, x35, x7, x37, x0, x39, x40, x41, x42, x42, (D_3 0), (D_3 1), (D_3 2), (D_3 3), x48, (D_4 0)] ++ [(D_4 1), (D_4 2), (D_4 3), (D_4 4), (D_4 5), (D_4 6), (D_4 7), (D_4 8), (D_4 9), (D_4 10), (D_4 11), (D_4 12), (D_4 13), (D_4 14), (D_4 15), (D_4 16), (D_4 17), (D_4 18), (D_4 19), x0, x70, x71, x72, undef, undef, undef, undef, undef, undef, undef, undef, undef, undef, undef, undef, undef, undef, undef, undef, undef, undef, undef, undef, undef, undef, undef, undef, undef, undef, undef] ++ [undef, undef, undef, undef, undef, undef, undef, undef, undef, undef, undef, undef, undef, undef, undef, undef, undef, undef, undef, undef, undef, undef, undef, undef, undef, undef, undef, undef, undef, undef, undef, undef, undef, undef, undef, undef, undef, undef, undef, undef, undef, undef, undef, undef, undef, undef, undef, undef, undef, undef] ++ [undef, undef, undef, undef, undef, undef, undef, undef, undef, undef, undef, undef, undef]).toArray, []⟩) (by kernel_rfl) ?_
              refine wp_join (fun a w => ∃ (D_5 : Nat → Value) (h_4 : Heap), a = ⟨([x0, x1, undef, undef, x7, x9, x1, x7, x0, x9, x7, x11, x11, (D 0), (D 1), (D 2), (D 3), (D 4), (D 5), x19, x9, x21, x22, x23, x23, (D_1 0), (D_1 1), (D_1 2), (D_1 3), x29, (D_2 0), (D_2 1), x9, x33, x34, x35, x7, x37, x0, x39, x40, x41, x42, x42, (D_3 0), (D_3 1), (D_3 2), (D_3 3), x48, (D_4 0)] ++ [(D_4 1), (D_4 2), (D_4 3), (D_4 4), (D_4 5), (D_4 6), (D_4 7), (D_4 8), (D_4 9), (D_4 10), (D_4 11), (D_4 12), (D_4 13), (D_4 14), (D_4 15), (D_4 16), (D_4 17), (D_4 18), (D_4 19), x0, x70, x71, x72, (D_5 0), (D_5 1), (D_5 2), undef, undef, undef, undef, undef, undef, undef, undef, undef, undef, undef, undef, undef, undef, undef, undef, undef, undef, undef, undef, undef, undef, undef, undef] ++ [undef, undef, undef, undef, undef, undef, undef, undef, undef, undef, undef, undef, undef, undef, undef, undef, undef, undef, undef, undef, undef, undef, undef, undef, undef, undef, undef, undef, undef, undef, undef, undef, undef, undef, undef, undef, undef, undef, undef, undef, undef, undef, undef, undef, undef, undef, undef, undef, undef, undef] ++ [undef, undef, undef, undef, undef, undef, undef, undef, undef, undef, undef, undef, undef]).toArray, []⟩ ∧ At w0 w h_4 ∧ screen_Screen_Put_j3 R x0 x1 x7 x9 h_4) ?_ ?_
              · refine wp_if rfl H (fun H => ?_) (fun H => ?_)
                · refine lwp_list ?_
                  refine ls_move (x := x0) (by kernel_rfl) (by kernel_rfl) ?_
                  refine ls_move (x := x7) (by kernel_rfl) (by kernel_rfl) ?_
                  refine ls_d (d := some 75) (by kernel_rfl) (by kernel_rfl) HA_6 (d_call (by kernel_rfl) (by kernel_rfl) H) (fun x75 h_13 w_20 H HA_20 => ?_)
                  refine ls_nil ?_
                  exact ⟨(fun i => ([x0, x7, x75]).getD i undef), h_13, by kernel_rfl, HA_20, H⟩
                · refine wp_skip ?_
                  exact ⟨(fun i => ([undef, undef, undef]).getD i undef), h_3, by kernel_rfl, HA_6, H⟩
              · rintro _ w_7 ⟨D_5, h_4, rfl, HA_7, H⟩
                unfold screen_Screen_Put_j3 at H
                refine then_normal ?_
                refine fr_eq (b := ⟨([x0, x1, undef, undef, x7, x9, x1, x7, x0, x9, x7, x11, x11, (D 0), (D 1), (D 2), (D 3), (D 4), (D 5), x19, x9, x21, x22, x23, x23, (D_1 0), (D_1 1), (D_1 2), (D_1 3), x29, (D_2 0), (D_2 1), x9, x33, x34, x35, x7, x37, x0, x39, x40, x41, x42, x42, (D_3 0), (D_3 1), (D_3 2), (D_3 3), x48, (D_4 0)] ++ [(D_4 1), (D_4 2), (D_4 3), (D_4 4), (D_4 5), (D_4 6), (D_4 7), (D_4 8), (D_4 9), (D_4 10), (D_4 11), (D_4 12), (D_4 13), (D_4 14), (D_4 15), (D_4 16), (D_4 17), (D_4 18), (D_4 19), x0, x70, x71, x72, (D_5 0), (D_5 1), (D_5 2), undef, undef, undef, undef, undef, undef, undef, undef, undef, undef, undef, undef, undef, undef, undef, undef, undef, undef, undef, undef, undef, undef, undef, undef] ++ [undef, undef, undef, undef, undef, undef, undef, undef, undef, undef, undef, undef, undef, undef, undef, undef, undef, undef, undef, undef, undef, undef, undef, undef, undef, undef, undef, undef, undef, undef, undef, undef, undef, undef, undef, undef, undef, undef, undef, undef, undef, undef, undef, undef, undef, undef, undef, undef, undef, undef] ++ [undef, undef, undef, undef, undef, undef, undef, undef, undef, undef, undef, undef, undef]).toArray, []⟩) (by kernel_rfl) ?_
                refine wp_seq ?_
                refine lwp_mx (Nat.testBit 524288) (Nat.testBit 0) (Nat.testBit 391031) [0, 1, 3, 7, 0, 16, 48, 112, 0, 256, 768, 1792, 0, 0, 8192, 24576, 57344, 122880, 258048, 524287] (Nat.testBit 0) (fun h' => h' = h_4) [0, 1, 2, 3, 4, 5, 6, 7, 8, 9, 10, 11, 12, 13, 14, 15, 16, 17, 18, 19] (by kernel_rfl) (by kernel_rfl) (by kernel_rfl) (by kernel_rfl) HA_7 rfl ?_
                intro w_8 HA_8
                refine lm_al (x := x0) (d := some 76) (by kernel_rfl) rfl (by kernel_rfl) (by kernel_rfl) (al_move (by kernel_rfl)) ?_
                refine lm_p (d := some 77) (by kernel_rfl) rfl (by kernel_rfl) (by kernel_rfl) (p_nil (by kernel_rfl) H) (fun x77 H => ?_)
                refine lm_p (d := some 78) (by kernel_rfl) rfl (by kernel_rfl) (by kernel_rfl) (p_off Tryd.underlying64 rfl (fun w => ⟨_, Tryd.sizeOf54 w⟩) rfl (by kernel_rfl) H) (fun x78 H => ?_)
                refine lm_f (d := some 79) (by kernel_rfl) rfl (by kernel_rfl) (by kernel_rfl) (by kernel_rfl) (by kernel_rfl) (of_eq (y_ld Tryd.isAgg54 (by kernel_rfl) H)) (fun x79 H => ?_)
                refine lm_al (x := x9) (d := some 80) (by kernel_rfl) rfl (by kernel_rfl) (by kernel_rfl) (al_move (by kernel_rfl)) ?_
                refine lm_p (d := some 81) (by kernel_rfl) rfl (by kernel_rfl) (by kernel_rfl) (p_nil (by kernel_rfl) H) (fun x81 H => ?_)
                refine lm_fr (b := ⟨([x0, x1, undef, undef, x7, x9, x1, x7, x0, x9, x7, x11, x11, (D 0), (D 1), (D 2), (D 3), (D 4), (D 5), x19, x9, x21, x22, x23, x23, (D_1 0), (D_1 1), (D_1 2), (D_1 3), x29, (D_2 0), (D_2 1), x9, x33, x34, x35, x7, x37, x0, x39, x40, x41, x42, x42, (D_3 0), (D_3 1), (D_3 2), (D_3 3), x48, (D_4 0)] ++ [(D_4 1), (D_4 2), (D_4 3), (D_4 4), (D_4 5), (D_4 6), (D_4 7), (D_4 8), (D_4 9), (D_4 10), (D_4 11), (D_4 12), (D_4 13), (D_4 14), (D_4 15), (D_4 16), (D_4 17), (D_4 18), (D_4 19), x0, x70, x71, x72, (D_5 0), (D_5 1), (D_5 2), x0, x77, x78, x79, x9, x81, undef, undef, undef, undef, undef, undef, undef, undef, undef, undef, undef, undef, undef, undef, undef, undef, undef, undef] ++ [undef, undef, undef, undef, undef, undef, undef, undef, undef, undef, undef, undef, undef, undef, undef, undef, undef, undef, undef, undef, undef, undef, undef, undef, undef, undef, undef, undef, undef, undef, undef, undef, undef, undef, undef, undef, undef, undef, undef, undef, undef, undef, undef, undef, undef, undef, undef, undef, undef, undef] ++ [undef, undef, undef, undef, undef, undef, undef, undef, undef, undef, undef, undef, undef]).toArray, []⟩) (by kernel_rfl) ?_
                refine lm_p (d := some 82) (by kernel_rfl) rfl (by kernel_rfl) (by kernel_rfl) (p_off Tryd.underlying38 rfl (fun w => ⟨_, Tryd.sizeOf3 w⟩) rfl (by kernel_rfl) H) (fun x82 H => ?_)
                refine lm_f (d := some 83) (by kernel_rfl) rfl (by kernel_rfl) (by kernel_rfl) (by kernel_rfl) (by kernel_rfl) (of_eq (y_ld Tryd.isAgg3 (by kernel_rfl) H)) (fun x83 H => ?_)
                refine lm_al (x := x9) (d := some 84) (by kernel_rfl) rfl (by kernel_rfl) (by kernel_rfl) (al_move (by kernel_rfl)) ?_
                refine lm_p (d := some 85) (by kernel_rfl) rfl (by kernel_rfl) (by kernel_rfl) (p_nil (by kernel_rfl) H) (fun x85 H => ?_)
                refine lm_p (d := some 86) (by kernel_rfl) rfl (by kernel_rfl) (by kernel_rfl) (p_off Tryd.underlying38 rfl (fun w => ⟨_, Tryd.sizeOf3 w⟩) rfl (by kernel_rfl) H) (fun x86 H => ?_)
                refine lm_f (d := some 87) (by kernel_rfl) rfl (by kernel_rfl) (by kernel_rfl) (by kernel_rfl) (by kernel_rfl) (of_eq (y_ld Tryd.isAgg3 (by kernel_rfl) H)) (fun x87 H => ?_)
                refine lm_fr (b := ⟨([x0, x1, undef, undef, x7, x9, x1, x7, x0, x9, x7, x11, x11, (D 0), (D 1), (D 2), (D 3), (D 4), (D 5), x19, x9, x21, x22, x23, x23, (D_1 0), (D_1 1), (D_1 2), (D_1 3), x29, (D_2 0), (D_2 1), x9, x33, x34, x35, x7, x37, x0, x39, x40, x41, x42, x42, (D_3 0), (D_3 1), (D_3 2), (D_3 3), x48, (D_4 0)] ++ [(D_4 1), (D_4 2), (D_4 3), (D_4 4), (D_4 5), (D_4 6), (D_4 7), (D_4 8), (D_4 9), (D_4 10), (D_4 11), (D_4 12), (D_4 13), (D_4 14), (D_4 15), (D_4 16), (D_4 17), (D_4 18), (D_4 19), x0, x70, x71, x72, (D_5 0), (D_5 1), (D_5 2), x0, x77, x78, x79, x9, x81, x82, x83, x9, x85, x86, x87, undef, undef, undef, undef, undef, undef, undef, undef, undef, undef, undef, undef] ++ [undef, undef, undef, undef, undef, undef, undef, undef, undef, undef, undef, undef, undef, undef, undef, undef, undef, undef, undef, undef, undef, undef, undef, undef, undef, undef, undef, undef, undef, undef, undef, undef, undef, undef, undef, undef, undef, undef, undef, undef, undef, undef, undef, undef, undef, undef, undef, undef, undef, undef] ++ [undef, undef, undef, undef, undef, undef, undef, undef, undef, undef, undef, undef, undef]).toArray, []⟩) (by kernel_rfl) ?_
                refine lm_al (x := x1) (d := some 88) (by kernel_rfl) rfl (by kernel_rfl) (by kernel_rfl) (al_move (by kernel_rfl)) ?_
                refine lm_al (x := x0) (d := some 89) (by kernel_rfl) rfl (by kernel_rfl) (by kernel_rfl) (al_move (by kernel_rfl)) ?_
                refine lm_p (d := some 90) (by kernel_rfl) rfl (by kernel_rfl) (by kernel_rfl) (p_nil (by kernel_rfl) H) (fun x90 H => ?_)
                refine lm_p (d := some 91) (by kernel_rfl) rfl (by kernel_rfl) (by kernel_rfl) (p_off Tryd.underlying64 rfl (fun w => ⟨_, Tryd.sizeOf61 w⟩) rfl (by kernel_rfl) H) (fun x91 H => ?_)
                refine lm_p (d := some 92) (by kernel_rfl) rfl (by kernel_rfl) (by kernel_rfl) (p_off Tryd.underlying61 rfl (fun w => ⟨_, Tryd.sizeOf29 w⟩) rfl (by kernel_rfl) H) (fun x92 H => ?_)
                refine lm_f (d := some 93) (by kernel_rfl) rfl (by kernel_rfl) (by kernel_rfl) (by kernel_rfl) (by kernel_rfl) (of_eq (y_ldn Tryd.isAgg29 Tryd.sizeOf29 (by kernel_rfl) H)) (fun x93 H => ?_)
                refine lm_fr (b := ⟨([x0, x1, undef, undef, x7, x9, x1, x7, x0, x9, x7, x11, x11, (D 0), (D 1), (D 2), (D 3), (D 4), (D 5), x19, x9, x21, x22, x23, x23, (D_1 0), (D_1 1), (D_1 2), (D_1 3), x29, (D_2 0), (D_2 1), x9, x33, x34, x35, x7, x37, x0, x39, x40, x41, x42, x42, (D_3 0), (D_3 1), (D_3 2), (D_3 3), x48, (D_4 0)] ++ [(D_4 1), (D_4 2), (D_4 3), (D_4 4), (D_4 5), (D_4 6), (D_4 7), (D_4 8), (D_4 9), (D_4 10), (D_4 11), (D_4 12), (D_4 13), (D_4 14), (D_4 15), (D_4 16), (D_4 17), (D_4 18), (D_4 19), x0, x70, x71, x72, (D_5 0), (D_5 1), (D_5 2), x0, x77, x78, x79, x9, x81, x82, x83, x9, x85, x86, x87, x1, x0, x90, x91, x92, x93, undef, undef, undef, undef, undef, undef] ++ [undef, undef, undef, undef, undef, undef, undef, undef, undef, undef, undef, undef, undef, undef, undef, undef, undef, undef, undef, undef, undef, undef, undef, undef, undef, undef, undef, undef, undef, undef, undef, undef, undef, undef, undef, undef, undef, undef, undef, undef, undef, undef, undef, undef, undef, undef, undef, undef, undef, undef] ++ [undef, undef, undef, undef, undef, undef, undef, undef, undef, undef, undef, undef, undef]).toArray, []⟩) (by kernel_rfl) ?_
                refine lm_p (d := some 94) (by kernel_rfl) rfl (by kernel_rfl) (by kernel_rfl) (p_lit (pl := [(0, 1), (1, 3)]) Tryd.zeroValue31 Tryd.underlying31 ⟨(by kernel_rfl), Tryd.sizeOf21, (by kernel_rfl), Tryd.sizeOf29, trivial⟩ (by kernel_rfl) (by kernel_rfl) H) (fun x94 H => ?_)
                refine lm_d (d := some 95) (by kernel_rfl) rfl (by kernel_rfl) (by kernel_rfl) (by kernel_rfl) HA_8 (d_call (by kernel_rfl) (by kernel_rfl) H) (fun x95 h_5 w_9 H HA_9 => ?_)
                refine lm_nil ?_
                refine then_normal ?_
                refine fr_eq (b := ⟨([x0, x1, undef, undef, x7, x9, x1, x7, x0, x9, x7, x11, x11, (D 0), (D 1), (D 2), (D 3), (D 4), (D 5), x19, x9, x21, x22, x23, x23, (D_1 0), (D_1 1), (D_1 2), (D_1 3), x29, (D_2 0), (D_2 1), x9, x33, x34, x35, x7, x37, x0, x39, x40, x41, x42, x42, (D_3 0), (D_3 1), (D_3 2), (D_3 3), x48, (D_4 0)] ++ [(D_4 1), (D_4 2), (D_4 3), (D_4 4), (D_4 5), (D_4 6), (D_4 7), (D_4 8), (D_4 9), (D_4 10), (D_4 11), (D_4 12), (D_4 13), (D_4 14), (D_4 15), (D_4 16), (D_4 17), (D_4 18), (D_4 19), x0, x70, x71, x72, (D_5 0), (D_5 1), (D_5 2), x0, x77, x78, x79, x9, x81, x82, x83, x9, x85, x86, x87, x1, x0, x90, x91, x92, x93, x94, x95, undef, undef, undef, undef] ++ [undef, undef, undef, undef, undef, undef, undef, undef, undef, undef, undef, undef, undef, undef, undef, undef, undef, undef, undef, undef, undef, undef, undef, undef, undef, undef, undef, undef, undef, undef, undef, undef, undef, undef, undef, undef, undef, undef, undef, undef, undef, undef, undef, undef, undef, undef, undef, undef, undef, undef] ++ [undef, undef, undef, undef, undef, undef, undef, undef, undef, undef, undef, undef, undef]).toArray, []⟩) (by kernel_rfl) ?_
                refine wp_seq ?_
                refine wp_seq ?_
                refine lwp_list ?_
                refine ls_move (x := x7) (by kernel_rfl) (by kernel_rfl) ?_
                refine ls_p (d := some 97) (by kernel_rfl) (by kernel_rfl) (p_sEq (by kernel_rfl) (by kernel_rfl) H) (fun x97 H => ?_)
                refine ls_nil ?_
                refine then_normal ?_
                refine fr_eq (b := ⟨([x0, x1, undef, undef, x7, x9, x1, x7, x0, x9, x7, x11, x11, (D 0), (D 1), (D 2), (D 3), (D 4), (D 5), x19, x9, x21, x22, x23, x23, (D_1 0), (D_1 1), (D_1 2), (D_1 3), x29, (D_2 0), (D_2 1), x9, x33, x34, x35, x7, x37, x0, x39, x40, x41, x42, x42, (D_3 0), (D_3 1), (D_3 2), (D_3 3), x48, (D_4 0)] ++ [(D_4 1), (D_4 2), (D_4 3), (D_4 4), (D_4 5), (D_4 6), (D_4 7), (D_4 8), (D_4 9), (D_4 10), (D_4 11), (D_4 12), (D_4 13), (D_4 14), (D_4 15), (D_4 16), (D_4 17), (D_4 18), (D_4 19), x0, x70, x71, x72, (D_5 0), (D_5 1), (D_5 2), x0, x77, x78, x79, x9, x81, x82, x83, x9, x85, x86, x87, x1, x0, x90, x91, x92, x93, x94, x95, x7, x97, undef, undef] ++ [undef, undef, undef, undef, undef, undef, undef, undef, undef, undef, undef, undef, undef, undef, undef, undef, undef, undef, undef, undef, undef, undef, undef, undef, undef, undef, undef, undef, undef, undef, undef, undef, undef, undef, undef, undef, undef, undef, undef, undef, undef, undef, undef, undef, undef, undef, undef, undef, undef, undef] ++ [undef, undef, undef, undef, undef, undef, undef, undef, undef, undef, undef, undef, undef]).toArray, []⟩) (by kernel_rfl) ?_
                refine wp_join (fun a w => ∃ (D_6 : Nat → Value) (h_6 : Heap), a = ⟨([x0, x1, undef, undef, x7, x9, x1, x7, x0, x9, x7, x11, x11, (D 0), (D 1), (D 2), (D 3), (D 4), (D 5), x19, x9, x21, x22, x23, x23, (D_1 0), (D_1 1), (D_1 2), (D_1 3), x29, (D_2 0), (D_2 1), x9, x33, x34, x35, x7, x37, x0, x39, x40, x41, x42, x42, (D_3 0), (D_3 1), (D_3 2), (D_3 3), x48, (D_4 0)] ++ [(D_4 1), (D_4 2), (D_4 3), (D_4 4), (D_4 5), (D_4 6), (D_4 7), (D_4 8), (D_4 9), (D_4 10), (D_4 11), (D_4 12), (D_4 13), (D_4 14), (D_4 15), (D_4 16), (D_4 17), (D_4 18), (D_4 19), x0, x70, x71, x72, (D_5 0), (D_5 1), (D_5 2), x0, x77, x78, x79, x9, x81, x82, x83, x9, x85, x86, x87, x1, x0, x90, x91, x92, x93, x94, x95, x7, x97, (D_6 0), (D_6 1)] ++ [(D_6 2), (D_6 3), (D_6 4), (D_6 5), (D_6 6), (D_6 7), (D_6 8), (D_6 9), (D_6 10), (D_6 11), (D_6 12), (D_6 13), (D_6 14), (D_6 15), (D_6 16), (D_6 17), (D_6 18), (D_6 19), undef, undef, undef, undef, undef, undef, undef, undef, undef, undef, undef, undef, undef, undef, undef, undef, undef, undef, undef, undef, undef, undef, undef, undef, undef, undef, undef, undef, undef, undef, undef, undef] ++ [undef, undef, undef, undef, undef, undef, undef, undef, undef, undef, undef, undef, undef]).toArray, []⟩ ∧ At w0 w h_6 ∧ screen_Screen_Put_j4 R x0 x7 x9 h_6) ?_ ?_
                · refine wp_if rfl H (fun H => ?_) (fun H => ?_)
                  · refine lwp_mx (Nat.testBit 524288) (Nat.testBit 0) (Nat.testBit 388983) [0, 1, 3, 7, 0, 16, 48, 112, 240, 0, 512, 1536, 3584, 0, 8192, 24576, 57344, 122880, 253952, 524287] (Nat.testBit 0) (fun h' => h' = h_5) [0, 1, 2, 3, 4, 5, 6, 7, 8, 9, 10, 11, 12, 13, 14, 15, 16, 17, 18, 19] (by kernel_rfl) (by kernel_rfl) (by kernel_rfl) (by kernel_rfl) HA_9 rfl ?_
                    intro w_18 HA_18
                    refine lm_al (x := x0) (d := some 98) (by kernel_rfl) rfl (by kernel_rfl) (by kernel_rfl) (al_move (by kernel_rfl)) ?_
                    refine lm_p (d := some 99) (by kernel_rfl) rfl (by kernel_rfl) (by kernel_rfl) (p_nil (by kernel_rfl) H) (fun x99 H => ?_)
                    refine lm_p (d := some 100) (by kernel_rfl) rfl (by kernel_rfl) (by kernel_rfl) (p_off Tryd.underlying64 rfl (fun w => ⟨_, Tryd.sizeOf54 w⟩) rfl (by kernel_rfl) H) (fun x100 H => ?_)
                    refine lm_f (d := some 101) (by kernel_rfl) rfl (by kernel_rfl) (by kernel_rfl) (by kernel_rfl) (by kernel_rfl) (of_eq (y_ld Tryd.isAgg54 (by kernel_rfl) H)) (fun x101 H => ?_)
                    refine lm_al (x := x9) (d := some 102) (by kernel_rfl) rfl (by kernel_rfl) (by kernel_rfl) (al_move (by kernel_rfl)) ?_
                    refine lm_p (d := some 103) (by kernel_rfl) rfl (by kernel_rfl) (by kernel_rfl) (p_nil (by kernel_rfl) H) (fun x103 H => ?_)
                    refine lm_fr (b := ⟨([x0, x1, undef, undef, x7, x9, x1, x7, x0, x9, x7, x11, x11, (D 0), (D 1), (D 2), (D 3), (D 4), (D 5), x19, x9, x21, x22, x23, x23, (D_1 0), (D_1 1), (D_1 2), (D_1 3), x29, (D_2 0), (D_2 1), x9, x33, x34, x35, x7, x37, x0, x39, x40, x41, x42, x42, (D_3 0), (D_3 1), (D_3 2), (D_3 3), x48, (D_4 0)] ++ [(D_4 1), (D_4 2), (D_4 3), (D_4 4), (D_4 5), (D_4 6), (D_4 7), (D_4 8), (D_4 9), (D_4 10), (D_4 11), (D_4 12), (D_4 13), (D_4 14), (D_4 15), (D_4 16), (D_4 17), (D_4 18), (D_4 19), x0, x70, x71, x72, (D_5 0), (D_5 1), (D_5 2), x0, x77, x78, x79, x9, x81, x82, x83, x9, x85, x86, x87, x1, x0, x90, x91, x92, x93, x94, x95, x7, x97, x0, x99] ++ [x100, x101, x9, x103, undef, undef, undef, undef, undef, undef, undef, undef, undef, undef, undef, undef, undef, undef, undef, undef, undef, undef, undef, undef, undef, undef, undef, undef, undef, undef, undef, undef, undef, undef, undef, undef, undef, undef, undef, undef, undef, undef, undef, undef, undef, undef, undef, undef, undef, undef] ++ [undef, undef, undef, undef, undef, undef, undef, undef, undef, undef, undef, undef, undef]).toArray, []⟩) (by kernel_rfl) ?_
                    refine lm_p (d := some 104) (by kernel_rfl) rfl (by kernel_rfl) (by kernel_rfl) (p_off Tryd.underlying38 rfl (fun w => ⟨_, Tryd.sizeOf3 w⟩) rfl (by kernel_rfl) H) (fun x104 H => ?_)
                    refine lm_f (d := some 105) (by kernel_rfl) rfl (by kernel_rfl) (by kernel_rfl) (by kernel_rfl) (by kernel_rfl) (of_eq (y_ld Tryd.isAgg3 (by kernel_rfl) H)) (fun x105 H => ?_)
                    refine lm_p (d := some 106) (by kernel_rfl) rfl (by kernel_rfl) (by kernel_rfl) (p_add (by kernel_rfl) (by kernel_rfl) H) (fun x106 H => ?_)
                    refine lm_al (x := x9) (d := some 107) (by kernel_rfl) rfl (by kernel_rfl) (by kernel_rfl) (al_move (by kernel_rfl)) ?_
                    refine lm_p (d := some 108) (by kernel_rfl) rfl (by kernel_rfl) (by kernel_rfl) (p_nil (by kernel_rfl) H) (fun x108 H => ?_)
                    refine lm_p (d := some 109) (by kernel_rfl) rfl (by kernel_rfl) (by kernel_rfl) (p_off Tryd.underlying38 rfl (fun w => ⟨_, Tryd.sizeOf3 w⟩) rfl (by kernel_rfl) H) (fun x109 H => ?_)
                    refine lm_fr (b := ⟨([x0, x1, undef, undef, x7, x9, x1, x7, x0, x9, x7, x11, x11, (D 0), (D 1), (D 2), (D 3), (D 4), (D 5), x19, x9, x21, x22, x23, x23, (D_1 0), (D_1 1), (D_1 2), (D_1 3), x29, (D_2 0), (D_2 1), x9, x33, x34, x35, x7, x37, x0, x39, x40, x41, x42, x42, (D_3 0), (D_3 1), (D_3 2), (D_3 3), x48, (D_4 0)] ++ [(D_4 1), (D_4 2), (D_4 3), (D_4 4), (D_4 5), (D_4 6), (D_4 7), (D_4 8), (D_4 9), (D_4 10), (D_4 11), (D_4 12), (D_4 13), (D_4 14), (D_4 15), (D_4 16), (D_4 17), (D_4 18), (D_4 19), x0, x70, x71, x72, (D_5 0), (D_5 1), (D_5 2), x0, x77, x78, x79, x9, x81, x82, x83, x9, x85, x86, x87, x1, x0, x90, x91, x92, x93, x94, x95, x7, x97, x0, x99] ++ [x100, x101, x9, x103, x104, x105, x106, x9, x108, x109, undef, undef, undef, undef, undef, undef, undef, undef, undef, undef, undef, undef, undef, undef, undef, undef, undef, undef, undef, undef, undef, undef, undef, undef, undef, undef, undef, undef, undef, undef, undef, undef, undef, undef, undef, undef, undef, undef, undef, undef] ++ [undef, undef, undef, undef, undef, undef, undef, undef, undef, undef, undef, undef, undef]).toArray, []⟩) (by kernel_rfl) ?_
                    refine lm_f (d := some 110) (by kernel_rfl) rfl (by kernel_rfl) (by kernel_rfl) (by kernel_rfl) (by kernel_rfl) (of_eq (y_ld Tryd.isAgg3 (by kernel_rfl) H)) (fun x110 H => ?_)
                    refine lm_al (x := x0) (d := some 111) (by kernel_rfl) rfl (by kernel_rfl) (by kernel_rfl) (al_move (by kernel_rfl)) ?_
                    refine lm_p (d := some 112) (by kernel_rfl) rfl (by kernel_rfl) (by kernel_rfl) (p_nil (by kernel_rfl) H) (fun x112 H => ?_)
                    refine lm_p (d := some 113) (by kernel_rfl) rfl (by kernel_rfl) (by kernel_rfl) (p_off Tryd.underlying64 rfl (fun w => ⟨_, Tryd.sizeOf61 w⟩) rfl (by kernel_rfl) H) (fun x113 H => ?_)
                    refine lm_p (d := some 114) (by kernel_rfl) rfl (by kernel_rfl) (by kernel_rfl) (p_off Tryd.underlying61 rfl (fun w => ⟨_, Tryd.sizeOf29 w⟩) rfl (by kernel_rfl) H) (fun x114 H => ?_)
                    refine lm_f (d := some 115) (by kernel_rfl) rfl (by kernel_rfl) (by kernel_rfl) (by kernel_rfl) (by kernel_rfl) (of_eq (y_ldn Tryd.isAgg29 Tryd.sizeOf29 (by kernel_rfl) H)) (fun x115 H => ?_)
                    refine lm_fr (b := ⟨([x0, x1, undef, undef, x7, x9, x1, x7, x0, x9, x7, x11, x11, (D 0), (D 1), (D 2), (D 3), (D 4), (D 5), x19, x9, x21, x22, x23, x23, (D_1 0), (D_1 1), (D_1 2), (D_1 3), x29, (D_2 0), (D_2 1), x9, x33, x34, x35, x7, x37, x0, x39, x40, x41, x42, x42, (D_3 0), (D_3 1), (D_3 2), (D_3 3), x48, (D_4 0)] ++ [(D_4 1), (D_4 2), (D_4 3), (D_4 4), (D_4 5), (D_4 6), (D_4 7), (D_4 8), (D_4 9), (D_4 10), (D_4 11), (D_4 12), (D_4 13), (D_4 14), (D_4 15), (D_4 16), (D_4 17), (D_4 18), (D_4 19), x0, x70, x71, x72, (D_5 0), (D_5 1), (D_5 2), x0, x77, x78, x79, x9, x81, x82, x83, x9, x85, x86, x87, x1, x0, x90, x91, x92, x93, x94, x95, x7, x97, x0, x99] ++ [x100, x101, x9, x103, x104, x105, x106, x9, x108, x109, x110, x0, x112, x113, x114, x115, undef, undef, undef, undef, undef, undef, undef, undef, undef, undef, undef, undef, undef, undef, undef, undef, undef, undef, undef, undef, undef, undef, undef, undef, undef, undef, undef, undef, undef, undef, undef, undef, undef, undef] ++ [undef, undef, undef, undef, undef, undef, undef, undef, undef, undef, undef, undef, undef]).toArray, []⟩) (by kernel_rfl) ?_
                    refine lm_p (d := some 116) (by kernel_rfl) rfl (by kernel_rfl) (by kernel_rfl) (p_lit (pl := [(0, 1), (1, 3)]) Tryd.zeroValue31 Tryd.underlying31 ⟨(by kernel_rfl), Tryd.sizeOf21, (by kernel_rfl), Tryd.sizeOf29, trivial⟩ (by kernel_rfl) (by kernel_rfl) H) (fun x116 H => ?_)
                    refine lm_d (d := some 117) (by kernel_rfl) rfl (by kernel_rfl) (by kernel_rfl) (by kernel_rfl) HA_18 (d_call (by kernel_rfl) (by kernel_rfl) H) (fun x117 h_12 w_19 H HA_19 => ?_)
                    refine lm_nil ?_
                    exact ⟨(fun i => ([x0, x99, x100, x101, x9, x103, x104, x105, x106, x9, x108, x109, x110, x0, x112, x113, x114, x115, x116, x117]).getD i undef), h_12, by kernel_rfl, HA_19, H⟩
                  · refine wp_skip ?_
                    exact ⟨(fun i => ([undef, undef, undef, undef, undef, undef, undef, undef, undef, undef, undef, undef, undef, undef, undef, undef, undef, undef, undef, undef]).getD i undef), h_5, by kernel_rfl, HA_9, H⟩
                · rintro _ w_10 ⟨D_6, h_6, rfl, HA_10, H⟩
                  unfold screen_Screen_Put_j4 at H
                  refine then_normal ?_
                  refine fr_eq (b := ⟨([x0, x1, undef, undef, x7, x9, x1, x7, x0, x9, x7, x11, x11, (D 0), (D 1), (D 2), (D 3), (D 4), (D 5), x19, x9, x21, x22, x23, x23, (D_1 0), (D_1 1), (D_1 2), (D_1 3), x29, (D_2 0), (D_2 1), x9, x33, x34, x35, x7, x37, x0, x39, x40, x41, x42, x42, (D_3 0), (D_3 1), (D_3 2), (D_3 3), x48, (D_4 0)] ++ [(D_4 1), (D_4 2), (D_4 3), (D_4 4), (D_4 5), (D_4 6), (D_4 7), (D_4 8), (D_4 9), (D_4 10), (D_4 11), (D_4 12), (D_4 13), (D_4 14), (D_4 15), (D_4 16), (D_4 17), (D_4 18), (D_4 19), x0, x70, x71, x72, (D_5 0), (D_5 1), (D_5 2), x0, x77, x78, x79, x9, x81, x82, x83, x9, x85, x86, x87, x1, x0, x90, x91, x92, x93, x94, x95, x7, x97, (D_6 0), (D_6 1)] ++ [(D_6 2), (D_6 3), (D_6 4), (D_6 5), (D_6 6), (D_6 7), (D_6 8), (D_6 9), (D_6 10), (D_6 11), (D_6 12), (D_6 13), (D_6 14), (D_6 15), (D_6 16), (D_6 17), (D_6 18), (D_6 19), undef, undef, undef, undef, undef, undef, undef, undef, undef, undef, undef, undef, undef, undef, undef, undef, undef, undef, undef, undef, undef, undef, undef, undef, undef, undef, undef, undef, undef, undef, undef, undef] ++ [undef, undef, undef, undef, undef, undef, undef, undef, undef, undef, undef, undef, undef]).toArray, []⟩) (by kernel_rfl) ?_
                  refine wp_seq ?_
                  refine lwp_mx (Nat.testBit 1024) (Nat.testBit 0) (Nat.testBit 495) [0, 0, 2, 6, 14, 0, 0, 64, 192, 448, 1023] (Nat.testBit 0) (fun h' => h' = h_6) [0, 1, 2, 3, 4, 5, 6, 7, 8, 9, 10] (by kernel_rfl) (by kernel_rfl) (by kernel_rfl) (by kernel_rfl) HA_10 rfl ?_
                  intro w_11 HA_11
                  refine lm_al (x := x0) (d := some 118) (by kernel_rfl) rfl (by kernel_rfl) (by kernel_rfl) (al_move (by kernel_rfl)) ?_
                  refine lm_al (x := x9) (d := some 119) (by kernel_rfl) rfl (by kernel_rfl) (by kernel_rfl) (al_move (by kernel_rfl)) ?_
                  refine lm_p (d := some 120) (by kernel_rfl) rfl (by kernel_rfl) (by kernel_rfl) (p_nil (by kernel_rfl) H) (fun x120 H => ?_)
                  refine lm_p (d := some 121) (by kernel_rfl) rfl (by kernel_rfl) (by kernel_rfl) (p_off Tryd.underlying38 rfl (fun w => ⟨_, Tryd.sizeOf3 w⟩) rfl (by kernel_rfl) H) (fun x121 H => ?_)
                  refine lm_f (d := some 122) (by kernel_rfl) rfl (by kernel_rfl) (by kernel_rfl) (by kernel_rfl) (by kernel_rfl) (of_eq (y_ld Tryd.isAgg3 (by kernel_rfl) H)) (fun x122 H => ?_)
                  refine lm_al (x := x7) (d := some 123) (by kernel_rfl) rfl (by kernel_rfl) (by kernel_rfl) (al_move (by kernel_rfl)) ?_
                  refine lm_fr (b := ⟨([x0, x1, undef, undef, x7, x9, x1, x7, x0, x9, x7, x11, x11, (D 0), (D 1), (D 2), (D 3), (D 4), (D 5), x19, x9, x21, x22, x23, x23, (D_1 0), (D_1 1), (D_1 2), (D_1 3), x29, (D_2 0), (D_2 1), x9, x33, x34, x35, x7, x37, x0, x39, x40, x41, x42, x42, (D_3 0), (D_3 1), (D_3 2), (D_3 3), x48, (D_4 0)] ++ [(D_4 1), (D_4 2), (D_4 3), (D_4 4), (D_4 5), (D_4 6), (D_4 7), (D_4 8), (D_4 9), (D_4 10), (D_4 11), (D_4 12), (D_4 13), (D_4 14), (D_4 15), (D_4 16), (D_4 17), (D_4 18), (D_4 19), x0, x70, x71, x72, (D_5 0), (D_5 1), (D_5 2), x0, x77, x78, x79, x9, x81, x82, x83, x9, x85, x86, x87, x1, x0, x90, x91, x92, x93, x94, x95, x7, x97, (D_6 0), (D_6 1)] ++ [(D_6 2), (D_6 3), (D_6 4), (D_6 5), (D_6 6), (D_6 7), (D_6 8), (D_6 9), (D_6 10), (D_6 11), (D_6 12), (D_6 13), (D_6 14), (D_6 15), (D_6 16), (D_6 17), (D_6 18), (D_6 19), x0, x9, x120, x121, x122, x7, undef, undef, undef, undef, undef, undef, undef, undef, undef, undef, undef, undef, undef, undef, undef, undef, undef, undef, undef, undef, undef, undef, undef, undef, undef, undef] ++ [undef, undef, undef, undef, undef, undef, undef, undef, undef, undef, undef, undef, undef]).toArray, []⟩) (by kernel_rfl) ?_
                  refine lm_al (x := x9) (d := some 124) (by kernel_rfl) rfl (by kernel_rfl) (by kernel_rfl) (al_move (by kernel_rfl)) ?_
                  refine lm_p (d := some 125) (by kernel_rfl) rfl (by kernel_rfl) (by kernel_rfl) (p_nil (by kernel_rfl) H) (fun x125 H => ?_)
                  refine lm_p (d := some 126) (by kernel_rfl) rfl (by kernel_rfl) (by kernel_rfl) (p_off Tryd.underlying38 rfl (fun w => ⟨_, Tryd.sizeOf3 w⟩) rfl (by kernel_rfl) H) (fun x126 H => ?_)
                  refine lm_f (d := some 127) (by kernel_rfl) rfl (by kernel_rfl) (by kernel_rfl) (by kernel_rfl) (by kernel_rfl) (of_eq (y_ld Tryd.isAgg3 (by kernel_rfl) H)) (fun x127 H => ?_)
                  refine lm_d (d := some 128) (by kernel_rfl) rfl (by kernel_rfl) (by kernel_rfl) (by kernel_rfl) HA_11 (d_call (by kernel_rfl) (by kernel_rfl) H) (fun x128 h_7 w_12 H HA_12 => ?_)
                  refine lm_nil ?_
                  refine then_normal ?_
                  refine fr_eq (b := ⟨([x0, x1, undef, undef, x7, x9, x1, x7, x0, x9, x7, x11, x11, (D 0), (D 1), (D 2), (D 3), (D 4), (D 5), x19, x9, x21, x22, x23, x23, (D_1 0), (D_1 1), (D_1 2), (D_1 3), x29, (D_2 0), (D_2 1), x9, x33, x34, x35, x7, x37, x0, x39, x40, x41, x42, x42, (D_3 0), (D_3 1), (D_3 2), (D_3 3), x48, (D_4 0)] ++ [(D_4 1), (D_4 2), (D_4 3), (D_4 4), (D_4 5), (D_4 6), (D_4 7), (D_4 8), (D_4 9), (D_4 10), (D_4 11), (D_4 12), (D_4 13), (D_4 14), (D_4 15), (D_4 16), (D_4 17), (D_4 18), (D_4 19), x0, x70, x71, x72, (D_5 0), (D_5 1), (D_5 2), x0, x77, x78, x79, x9, x81, x82, x83, x9, x85, x86, x87, x1, x0, x90, x91, x92, x93, x94, x95, x7, x97, (D_6 0), (D_6 1)] ++ [(D_6 2), (D_6 3), (D_6 4), (D_6 5), (D_6 6), (D_6 7), (D_6 8), (D_6 9), (D_6 10), (D_6 11), (D_6 12), (D_6 13), (D_6 14), (D_6 15), (D_6 16), (D_6 17), (D_6 18), (D_6 19), x0, x9, x120, x121, x122, x7, x9, x125, x126, x127, x128, undef, undef, undef, undef, undef, undef, undef, undef, undef, undef, undef, undef, undef, undef, undef, undef, undef, undef, undef, undef, undef] ++ [undef, undef, undef, undef, undef, undef, undef, undef, undef, undef, undef, undef, undef]).toArray, []⟩) (by kernel_rfl) ?_
                  refine wp_seq ?_
                  refine lwp_list ?_
                  refine ls_move (x := x9) (by kernel_rfl) (by kernel_rfl) ?_
                  refine ls_p (d := some 130) (by kernel_rfl) (by kernel_rfl) (p_nil (by kernel_rfl) H) (fun x130 H => ?_)
                  refine ls_p (d := some 131) (by kernel_rfl) (by kernel_rfl) (p_off Tryd.underlying38 rfl (fun w => ⟨_, Tryd.sizeOf3 w⟩) rfl (by kernel_rfl) H) (fun x131 H => ?_)
                  refine ls_y (d := some 132) (by kernel_rfl) (by kernel_rfl) HA_12 (y_ld Tryd.isAgg3 (by kernel_rfl) H) (fun x132 H => ?_)
                  refine ls_move (x := x7) (by kernel_rfl) (by kernel_rfl) ?_
                  refine ls_p (d := some 134) (by kernel_rfl) (by kernel_rfl) (p_add (by kernel_rfl) (by kernel_rfl) H) (fun x134 H => ?_)
                  refine ls_fr (b := ⟨([x0, x1, undef, undef, x7, x9, x1, x7, x0, x9, x7, x11, x11, (D 0), (D 1), (D 2), (D 3), (D 4), (D 5), x19, x9, x21, x22, x23, x23, (D_1 0), (D_1 1), (D_1 2), (D_1 3), x29, (D_2 0), (D_2 1), x9, x33, x34, x35, x7, x37, x0, x39, x40, x41, x42, x42, (D_3 0), (D_3 1), (D_3 2), (D_3 3), x48, (D_4 0)] ++ [(D_4 1), (D_4 2), (D_4 3), (D_4 4), (D_4 5), (D_4 6), (D_4 7), (D_4 8), (D_4 9), (D_4 10), (D_4 11), (D_4 12), (D_4 13), (D_4 14), (D_4 15), (D_4 16), (D_4 17), (D_4 18), (D_4 19), x0, x70, x71, x72, (D_5 0), (D_5 1), (D_5 2), x0, x77, x78, x79, x9, x81, x82, x83, x9, x85, x86, x87, x1, x0, x90, x91, x92, x93, x94, x95, x7, x97, (D_6 0), (D_6 1)] ++ [(D_6 2), (D_6 3), (D_6 4), (D_6 5), (D_6 6), (D_6 7), (D_6 8), (D_6 9), (D_6 10), (D_6 11), (D_6 12), (D_6 13), (D_6 14), (D_6 15), (D_6 16), (D_6 17), (D_6 18), (D_6 19), x0, x9, x120, x121, x122, x7, x9, x125, x126, x127, x128, x9, x130, x131, x132, x7, x134, undef, undef, undef, undef, undef, undef, undef, undef, undef, undef, undef, undef, undef, undef, undef] ++ [undef, undef, undef, undef, undef, undef, undef, undef, undef, undef, undef, undef, undef]).toArray, []⟩) (by kernel_rfl) ?_
                  refine ls_p (d := some 135) (by kernel_rfl) (by kernel_rfl) (p_nil (by kernel_rfl) H) (fun x135 H => ?_)
                  refine ls_p (d := some 136) (by kernel_rfl) (by kernel_rfl) (p_off Tryd.underlying38 rfl (fun w => ⟨_, Tryd.sizeOf3 w⟩) rfl (by kernel_rfl) H) (fun x136 H => ?_)
                  refine ls_d (d := none) (by kernel_rfl) (by kernel_rfl) HA_12 (d_st Tryd.sizeOf3 (by kernel_rfl) (by kernel_rfl) H) (fun _ h_8 w_13 H HA_13 => ?_)
                  refine ls_nil ?_
                  refine then_normal ?_
                  refine fr_eq (b := ⟨([x0, x1, undef, undef, x7, x9, x1, x7, x0, x9, x7, x11, x11, (D 0), (D 1), (D 2), (D 3), (D 4), (D 5), x19, x9, x21, x22, x23, x23, (D_1 0), (D_1 1), (D_1 2), (D_1 3), x29, (D_2 0), (D_2 1), x9, x33, x34, x35, x7, x37, x0, x39, x40, x41, x42, x42, (D_3 0), (D_3 1), (D_3 2), (D_3 3), x48, (D_4 0)] ++ [(D_4 1), (D_4 2), (D_4 3), (D_4 4), (D_4 5), (D_4 6), (D_4 7), (D_4 8), (D_4 9), (D_4 10), (D_4 11), (D_4 12), (D_4 13), (D_4 14), (D_4 15), (D_4 16), (D_4 17), (D_4 18), (D_4 19), x0, x70, x71, x72, (D_5 0), (D_5 1), (D_5 2), x0, x77, x78, x79, x9, x81, x82, x83, x9, x85, x86, x87, x1, x0, x90, x91, x92, x93, x94, x95, x7, x97, (D_6 0), (D_6 1)] ++ [(D_6 2), (D_6 3), (D_6 4), (D_6 5), (D_6 6), (D_6 7), (D_6 8), (D_6 9), (D_6 10), (D_6 11), (D_6 12), (D_6 13), (D_6 14), (D_6 15), (D_6 16), (D_6 17), (D_6 18), (D_6 19), x0, x9, x120, x121, x122, x7, x9, x125, x126, x127, x128, x9, x130, x131, x132, x7, x134, x135, x136, undef, undef, undef, undef, undef, undef, undef, undef, undef, undef, undef, undef, undef] ++ [undef, undef, undef, undef, undef, undef, undef, undef, undef, undef, undef, undef, undef]).toArray, []⟩) (by kernel_rfl) ?_
                  refine wp_seq ?_
                  refine lwp_list ?_
                  refine ls_move (x := x9) (by kernel_rfl) (by kernel_rfl) ?_
                  refine ls_p (d := some 138) (by kernel_rfl) (by kernel_rfl) (p_nil (by kernel_rfl) H) (fun x138 H => ?_)
                  refine ls_p (d := some 139) (by kernel_rfl) (by kernel_rfl) (p_off Tryd.underlying38 rfl (fun w => ⟨_, Tryd.sizeOf4 w⟩) rfl (by kernel_rfl) H) (fun x139 H => ?_)
                  refine ls_d (d := none) (by kernel_rfl) (by kernel_rfl) HA_13 (d_st Tryd.sizeOf4 (by kernel_rfl) (by kernel_rfl) H) (fun _ h_9 w_14 H HA_14 => ?_)
                  refine ls_nil ?_
                  refine then_normal ?_
                  refine fr_eq (b := ⟨([x0, x1, undef, undef, x7, x9, x1, x7, x0, x9, x7, x11, x11, (D 0), (D 1), (D 2), (D 3), (D 4), (D 5), x19, x9, x21, x22, x23, x23, (D_1 0), (D_1 1), (D_1 2), (D_1 3), x29, (D_2 0), (D_2 1), x9, x33, x34, x35, x7, x37, x0, x39, x40, x41, x42, x42, (D_3 0), (D_3 1), (D_3 2), (D_3 3), x48, (D_4 0)] ++ [(D_4 1), (D_4 2), (D_4 3), (D_4 4), (D_4 5), (D_4 6), (D_4 7), (D_4 8), (D_4 9), (D_4 10), (D_4 11), (D_4 12), (D_4 13), (D_4 14), (D_4 15), (D_4 16), (D_4 17), (D_4 18), (D_4 19), x0, x70, x71, x72, (D_5 0), (D_5 1), (D_5 2), x0, x77, x78, x79, x9, x81, x82, x83, x9, x85, x86, x87, x1, x0, x90, x91, x92, x93, x94, x95, x7, x97, (D_6 0), (D_6 1)] ++ [(D_6 2), (D_6 3), (D_6 4), (D_6 5), (D_6 6), (D_6 7), (D_6 8), (D_6 9), (D_6 10), (D_6 11), (D_6 12), (D_6 13), (D_6 14), (D_6 15), (D_6 16), (D_6 17), (D_6 18), (D_6 19), x0, x9, x120, x121, x122, x7, x9, x125, x126, x127, x128, x9, x130, x131, x132, x7, x134, x135, x136, x9, x138, x139, undef, undef, undef, undef, undef, undef, undef, undef, undef, undef] ++ [undef, undef, undef, undef, undef, undef, undef, undef, undef, undef, undef, undef, undef]).toArray, []⟩) (by kernel_rfl) ?_
                  refine wp_seq ?_
                  refine lwp_qt (by kernel_rfl) (by kernel_rfl) HA_14 ?_
                  refine lq_move (x := x9) (by kernel_rfl) (by kernel_rfl) ?_
                  refine lq_p (d := some 141) (by kernel_rfl) (by kernel_rfl) (p_nil (by kernel_rfl) H) (fun x141 H => ?_)
                  refine lq_p (d := some 142) (by kernel_rfl) (by kernel_rfl) (p_off Tryd.underlying38 rfl (fun w => ⟨_, Tryd.sizeOf3 w⟩) rfl (by kernel_rfl) H) (fun x142 H => ?_)
                  refine lq_y (d := some 143) (by kernel_rfl) (by kernel_rfl) HA_14 (y_ld Tryd.isAgg3 (by kernel_rfl) H) (fun x143 H => ?_)
                  refine lq_move (x := x0) (by kernel_rfl) (by kernel_rfl) ?_
                  refine lq_p (d := some 145) (by kernel_rfl) (by kernel_rfl) (p_nil (by kernel_rfl) H) (fun x145 H => ?_)
                  refine lq_fr (b := ⟨([x0, x1, undef, undef, x7, x9, x1, x7, x0, x9, x7, x11, x11, (D 0), (D 1), (D 2), (D 3), (D 4), (D 5), x19, x9, x21, x22, x23, x23, (D_1 0), (D_1 1), (D_1 2), (D_1 3), x29, (D_2 0), (D_2 1), x9, x33, x34, x35, x7, x37, x0, x39, x40, x41, x42, x42, (D_3 0), (D_3 1), (D_3 2), (D_3 3), x48, (D_4 0)] ++ [(D_4 1), (D_4 2), (D_4 3), (D_4 4), (D_4 5), (D_4 6), (D_4 7), (D_4 8), (D_4 9), (D_4 10), (D_4 11), (D_4 12), (D_4 13), (D_4 14), (D_4 15), (D_4 16), (D_4 17), (D_4 18), (D_4 19), x0, x70, x71, x72, (D_5 0), (D_5 1), (D_5 2), x0, x77, x78, x79, x9, x81, x82, x83, x9, x85, x86, x87, x1, x0, x90, x91, x92, x93, x94, x95, x7, x97, (D_6 0), (D_6 1)] ++ [(D_6 2), (D_6 3), (D_6 4), (D_6 5), (D_6 6), (D_6 7), (D_6 8), (D_6 9), (D_6 10), (D_6 11), (D_6 12), (D_6 13), (D_6 14), (D_6 15), (D_6 16), (D_6 17), (D_6 18), (D_6 19), x0, x9, x120, x121, x122, x7, x9, x125, x126, x127, x128, x9, x130, x131, x132, x7, x134, x135, x136, x9, x138, x139, x9, x141, x142, x143, x0, x145, undef, undef, undef, undef] ++ [undef, undef, undef, undef, undef, undef, undef, undef, undef, undef, undef, undef, undef]).toArray, []⟩) (by kernel_rfl) ?_
                  refine lq_p (d := some 146) (by kernel_rfl) (by kernel_rfl) (p_off Tryd.underlying64 rfl (fun w => ⟨_, Tryd.sizeOf3 w⟩) rfl (by kernel_rfl) H) (fun x146 H => ?_)
                  refine lq_y (d := some 147) (by kernel_rfl) (by kernel_rfl) HA_14 (y_ld Tryd.isAgg3 (by kernel_rfl) H) (fun x147 H => ?_)
                  refine lq_p (d := some 148) (by kernel_rfl) (by kernel_rfl) (p_sEq (by kernel_rfl) (by kernel_rfl) H) (fun x148 H => ?_)
                  refine lq_nil ?_
                  intro w_15 HA_15
                  refine then_normal ?_
                  refine fr_eq (b := ⟨([x0, x1, undef, undef, x7, x9, x1, x7, x0, x9, x7, x11, x11, (D 0), (D 1), (D 2), (D 3), (D 4), (D 5), x19, x9, x21, x22, x23, x23, (D_1 0), (D_1 1), (D_1 2), (D_1 3), x29, (D_2 0), (D_2 1), x9, x33, x34, x35, x7, x37, x0, x39, x40, x41, x42, x42, (D_3 0), (D_3 1), (D_3 2), (D_3 3), x48, (D_4 0)] ++ [(D_4 1), (D_4 2), (D_4 3), (D_4 4), (D_4 5), (D_4 6), (D_4 7), (D_4 8), (D_4 9), (D_4 10), (D_4 11), (D_4 12), (D_4 13), (D_4 14), (D_4 15), (D_4 16), (D_4 17), (D_4 18), (D_4 19), x0, x70, x71, x72, (D_5 0), (D_5 1), (D_5 2), x0, x77, x78, x79, x9, x81, x82, x83, x9, x85, x86, x87, x1, x0, x90, x91, x92, x93, x94, x95, x7, x97, (D_6 0), (D_6 1)] ++ [(D_6 2), (D_6 3), (D_6 4), (D_6 5), (D_6 6), (D_6 7), (D_6 8), (D_6 9), (D_6 10), (D_6 11), (D_6 12), (D_6 13), (D_6 14), (D_6 15), (D_6 16), (D_6 17), (D_6 18), (D_6 19), x0, x9, x120, x121, x122, x7, x9, x125, x126, x127, x128, x9, x130, x131, x132, x7, x134, x135, x136, x9, x138, x139, x9, x141, x142, x143, x0, x145, x146, x147, x148, undef] ++ [undef, undef, undef, undef, undef, undef, undef, undef, undef, undef, undef, undef, undef]).toArray, []⟩) (by kernel_rfl) ?_
                  refine wp_if rfl H (fun H => ?_) (fun H => ?_)
                  · refine wp_seq ?_
                    refine lwp_list ?_
                    refine ls_move (x := x9) (by kernel_rfl) (by kernel_rfl) ?_
                    refine ls_p (d := some 150) (by kernel_rfl) (by kernel_rfl) (p_nil (by kernel_rfl) H) (fun x150 H => ?_)
                    refine ls_p (d := some 151) (by kernel_rfl) (by kernel_rfl) (p_off Tryd.underlying38 rfl (fun w => ⟨_, Tryd.sizeOf3 w⟩) rfl (by kernel_rfl) H) (fun x151 H => ?_)
                    refine ls_y (d := some 152) (by kernel_rfl) (by kernel_rfl) HA_15 (y_ld Tryd.isAgg3 (by kernel_rfl) H) (fun x152 H => ?_)
                    refine ls_p (d := some 153) (by kernel_rfl) (by kernel_rfl) (p_sub (by kernel_rfl) (by kernel_rfl) H) (fun x153 H => ?_)
                    refine ls_p (d := some 154) (by kernel_rfl) (by kernel_rfl) (p_nil (by kernel_rfl) H) (fun x154 H => ?_)
                    refine ls_fr (b := ⟨([x0, x1, undef, undef, x7, x9, x1, x7, x0, x9, x7, x11, x11, (D 0), (D 1), (D 2), (D 3), (D 4), (D 5), x19, x9, x21, x22, x23, x23, (D_1 0), (D_1 1), (D_1 2), (D_1 3), x29, (D_2 0), (D_2 1), x9, x33, x34, x35, x7, x37, x0, x39, x40, x41, x42, x42, (D_3 0), (D_3 1), (D_3 2), (D_3 3), x48, (D_4 0)] ++ [(D_4 1), (D_4 2), (D_4 3), (D_4 4), (D_4 5), (D_4 6), (D_4 7), (D_4 8), (D_4 9), (D_4 10), (D_4 11), (D_4 12), (D_4 13), (D_4 14), (D_4 15), (D_4 16), (D_4 17), (D_4 18), (D_4 19), x0, x70, x71, x72, (D_5 0), (D_5 1), (D_5 2), x0, x77, x78, x79, x9, x81, x82, x83, x9, x85, x86, x87, x1, x0, x90, x91, x92, x93, x94, x95, x7, x97, (D_6 0), (D_6 1)] ++ [(D_6 2), (D_6 3), (D_6 4), (D_6 5), (D_6 6), (D_6 7), (D_6 8), (D_6 9), (D_6 10), (D_6 11), (D_6 12), (D_6 13), (D_6 14), (D_6 15), (D_6 16), (D_6 17), (D_6 18), (D_6 19), x0, x9, x120, x121, x122, x7, x9, x125, x126, x127, x128, x9, x130, x131, x132, x7, x134, x135, x136, x9, x138, x139, x9, x141, x142, x143, x0, x145, x146, x147, x148, x9] ++ [x150, x151, x152, x153, x154, undef, undef, undef, undef, undef, undef, undef, undef]).toArray, []⟩) (by kernel_rfl) ?_
                    refine ls_p (d := some 155) (by kernel_rfl) (by kernel_rfl) (p_off Tryd.underlying38 rfl (fun w => ⟨_, Tryd.sizeOf3 w⟩) rfl (by kernel_rfl) H) (fun x155 H => ?_)
                    refine ls_d (d := none) (by kernel_rfl) (by kernel_rfl) HA_15 (d_st Tryd.sizeOf3 (by kernel_rfl) (by kernel_rfl) H) (fun _ h_10 w_16 H HA_16 => ?_)
                    refine ls_nil ?_
                    refine then_normal ?_
                    refine fr_eq (b := ⟨([x0, x1, undef, undef, x7, x9, x1, x7, x0, x9, x7, x11, x11, (D 0), (D 1), (D 2), (D 3), (D 4), (D 5), x19, x9, x21, x22, x23, x23, (D_1 0), (D_1 1), (D_1 2), (D_1 3), x29, (D_2 0), (D_2 1), x9, x33, x34, x35, x7, x37, x0, x39, x40, x41, x42, x42, (D_3 0), (D_3 1), (D_3 2), (D_3 3), x48, (D_4 0)] ++ [(D_4 1), (D_4 2), (D_4 3), (D_4 4), (D_4 5), (D_4 6), (D_4 7), (D_4 8), (D_4 9), (D_4 10), (D_4 11), (D_4 12), (D_4 13), (D_4 14), (D_4 15), (D_4 16), (D_4 17), (D_4 18), (D_4 19), x0, x70, x71, x72, (D_5 0), (D_5 1), (D_5 2), x0, x77, x78, x79, x9, x81, x82, x83, x9, x85, x86, x87, x1, x0, x90, x91, x92, x93, x94, x95, x7, x97, (D_6 0), (D_6 1)] ++ [(D_6 2), (D_6 3), (D_6 4), (D_6 5), (D_6 6), (D_6 7), (D_6 8), (D_6 9), (D_6 10), (D_6 11), (D_6 12), (D_6 13), (D_6 14), (D_6 15), (D_6 16), (D_6 17), (D_6 18), (D_6 19), x0, x9, x120, x121, x122, x7, x9, x125, x126, x127, x128, x9, x130, x131, x132, x7, x134, x135, x136, x9, x138, x139, x9, x141, x142, x143, x0, x145, x146, x147, x148, x9] ++ [x150, x151, x152, x153, x154, x155, undef, undef, undef, undef, undef, undef, undef]).toArray, []⟩) (by kernel_rfl) ?_
                    refine lwp_list ?_
                    refine ls_move (x := x9) (by kernel_rfl) (by kernel_rfl) ?_
                    refine ls_move (x := x0) (by kernel_rfl) (by kernel_rfl) ?_
                    refine ls_p (d := some 158) (by kernel_rfl) (by kernel_rfl) (p_nil (by kernel_rfl) H) (fun x158 H => ?_)
                    refine ls_p (d := some 159) (by kernel_rfl) (by kernel_rfl) (p_off Tryd.underlying64 rfl (fun w => ⟨_, Tryd.sizeOf4 w⟩) rfl (by kernel_rfl) H) (fun x159 H => ?_)
                    refine ls_y (d := some 160) (by kernel_rfl) (by kernel_rfl) HA_16 (y_ld Tryd.isAgg4 (by kernel_rfl) H) (fun x160 H => ?_)
                    refine ls_p (d := some 161) (by kernel_rfl) (by kernel_rfl) (p_nil (by kernel_rfl) H) (fun x161 H => ?_)
                    refine ls_fr (b := ⟨([x0, x1, undef, undef, x7, x9, x1, x7, x0, x9, x7, x11, x11, (D 0), (D 1), (D 2), (D 3), (D 4), (D 5), x19, x9, x21, x22, x23, x23, (D_1 0), (D_1 1), (D_1 2), (D_1 3), x29, (D_2 0), (D_2 1), x9, x33, x34, x35, x7, x37, x0, x39, x40, x41, x42, x42, (D_3 0), (D_3 1), (D_3 2), (D_3 3), x48, (D_4 0)] ++ [(D_4 1), (D_4 2), (D_4 3), (D_4 4), (D_4 5), (D_4 6), (D_4 7), (D_4 8), (D_4 9), (D_4 10), (D_4 11), (D_4 12), (D_4 13), (D_4 14), (D_4 15), (D_4 16), (D_4 17), (D_4 18), (D_4 19), x0, x70, x71, x72, (D_5 0), (D_5 1), (D_5 2), x0, x77, x78, x79, x9, x81, x82, x83, x9, x85, x86, x87, x1, x0, x90, x91, x92, x93, x94, x95, x7, x97, (D_6 0), (D_6 1)] ++ [(D_6 2), (D_6 3), (D_6 4), (D_6 5), (D_6 6), (D_6 7), (D_6 8), (D_6 9), (D_6 10), (D_6 11), (D_6 12), (D_6 13), (D_6 14), (D_6 15), (D_6 16), (D_6 17), (D_6 18), (D_6 19), x0, x9, x120, x121, x122, x7, x9, x125, x126, x127, x128, x9, x130, x131, x132, x7, x134, x135, x136, x9, x138, x139, x9, x141, x142, x143, x0, x145, x146, x147, x148, x9] ++ [x150, x151, x152, x153, x154, x155, x9, x0, x158, x159, x160, x161, undef]).toArray, []⟩) (by kernel_rfl) ?_
                    refine ls_p (d := some 162) (by kernel_rfl) (by kernel_rfl) (p_off Tryd.underlying38 rfl (fun w => ⟨_, Tryd.sizeOf4 w⟩) rfl (by kernel_rfl) H) (fun x162 H => ?_)
                    refine ls_d (d := none) (by kernel_rfl) (by kernel_rfl) HA_16 (d_st Tryd.sizeOf4 (by kernel_rfl) (by kernel_rfl) H) (fun _ h_11 w_17 H HA_17 => ?_)
                    refine ls_nil ?_
                    exact end0 (Tryd.results9) (by kernel_rfl) HA_17 H _ (.inl rfl)
                  · refine wp_skip ?_
                    exact end0 (Tryd.results9) (by kernel_rfl) HA_15 H _ (.inl rfl)

end Go.Proofs.YtmhhjpfkipficaaDoor

end

section
/- Screens: what is erased, put in, taken out, put. -/
set_option linter.unusedSimpArgs false
set_option linter.unusedVariables false
namespace Go.Proofs.YtmhhjpfkipficaaDoor
open Go Go.HW

/-- A row alone changes, and stays whole. -/
structure RowTo (C D : Cel) (w y : Int) : Prop where
  other : ∀ a b, b ≠ y → D a b = C a b
  whole : wholeR C w y → wholeR D w y
theorem RowTo.refl (C : Cel) (w y : Int) : RowTo C C w y := ⟨fun _ _ _ => rfl, id⟩
theorem wholeR_congr {C D : Cel} {w y : Int} (h : ∀ a, D a y = C a y) (z : wholeR C w y) : wholeR D w y := fun x h0 h1 => by
  rw [h, h, h]; exact z x h0 h1
theorem RowTo.all {C D : Cel} {w g y : Int} (r : RowTo C D w y) (z : wholeC C w g) : wholeC D w g := fun b h0 h1 => by
  by_cases e : b = y
  · subst e; exact r.whole (z b h0 h1)
  · exact wholeR_congr (fun a => r.other a b e) (z b h0 h1)
theorem fill_other {C : Cel} {w g f y n : Int} {bl : Ce} {a b : Int} (h : b ≠ y) : fillF C w g ⟨f, y, n, 1⟩ bl a b = C a b := by
  unfold fillF Rc.has; rw [if_neg]; simp only; omega
def lineFrom (m : Sc) (kind : Int) : Int := if kind = 0 then m.x else 0
def lineTo (m : Sc) (kind : Int) : Int := if kind = 1 then m.x + 1 else m.w
def partC (C : Cel) (w g x n y : Int) : Cel :=
  let C1 := if 0 < x ∧ two (C (x - 1) y).r = true then setF C w g (x - 1) y (C (x - 1) y).clr else C
  if (C1 (x + n) y).r = -1 then setF C1 w g (x + n) y (C1 (x + n) y).clr else C1
def Sc.cell (m : Sc) (r : Int) : Ce := ⟨r, m.pf, m.pb, m.pg⟩
def putC (m : Sc) (C : Cel) (r : Int) : Cel :=
  let C1 := setF C m.w m.g m.x m.y (m.cell r)
  partC (if wt r = 2 then setF C1 m.w m.g (m.x + 1) m.y (m.cell (-1)) else C1) m.w m.g m.x (wt r) m.y
def stepM (m : Sc) (r : Int) : Sc := if m.x + wt r = m.w then { m with x := m.x + wt r - 1, late := m.wrap } else { m with x := m.x + wt r, late := false }
def putM1 (m : Sc) : Sc := if (m.late && m.wrap) = true then wrapM m else m
def putC1 (m : Sc) (C : Cel) : Cel := if (m.late && m.wrap) = true then lineC m C else C
def putO1 (m : Sc) (C : Cel) (off : List (List Ce)) : List (List Ce) := if (m.late && m.wrap) = true then lineO m C off else off
def putM2 (m : Sc) (n : Int) : Sc := if m.x + n > m.w then (if m.wrap = true then wrapM m else { m with x := m.x - 1 }) else m
def putC2 (m : Sc) (C : Cel) (n : Int) : Cel := if m.x + n > m.w ∧ m.wrap = true then lineC m C else C
def putO2 (m : Sc) (C : Cel) (off : List (List Ce)) (n : Int) : List (List Ce) := if m.x + n > m.w ∧ m.wrap = true then lineO m C off else off

theorem setF_ne {C : Cel} {w g x y a b : Int} {c : Ce} (h : ¬(a = x ∧ b = y)) : setF C w g x y c a b = C a b := by unfold setF; rw [if_neg (fun z => h z.2)]
theorem setF_eq {C : Cel} {w g x y : Int} {c : Ce} (h : inG w g x y = true) : setF C w g x y c x y = c := by unfold setF; rw [if_pos ⟨h, rfl, rfl⟩]
/-- What a row is behind a put. -/
theorem put_at {m : Sc} {C : Cel} {r a b : Int} (hy : 0 ≤ m.y ∧ m.y < m.g) (hx : 0 ≤ m.x ∧ m.x + wt r ≤ m.w) (hr : wt r = 1 ∨ wt r = 2) (ho : ∀ x y, ¬ inG m.w m.g x y = true → C x y = ce0) :
    putC m C r a b = if b = m.y then (if a = m.x then m.cell r else if wt r = 2 ∧ a = m.x + 1 then m.cell (-1) else if a = m.x - 1 ∧ 0 < m.x ∧ two (C a b).r = true then (C a b).clr else if a = m.x + wt r ∧ (C a b).r = -1 then (C a b).clr else C a b) else C a b := by
  have i0 : inG m.w m.g m.x m.y = true := inG_iff.2 ⟨by omega, hy⟩
  have hin : wt r = 2 → inG m.w m.g (m.x + 1) m.y = true := fun h => inG_iff.2 ⟨by omega, hy⟩
  have hin2 : ∀ z, (C z m.y).r ≠ 0 → inG m.w m.g z m.y = true := fun z hz => by
    apply Classical.byContradiction; intro hh; rw [ho z _ hh] at hz; exact hz rfl
  generalize hP : (if wt r = 2 then setF (setF C m.w m.g m.x m.y (m.cell r)) m.w m.g (m.x + 1) m.y (m.cell (-1)) else setF C m.w m.g m.x m.y (m.cell r)) = P
  have P0 : ∀ z y, ¬(z = m.x ∧ y = m.y) → ¬(wt r = 2 ∧ z = m.x + 1 ∧ y = m.y) → P z y = C z y := fun z y h1 h2 => by
    rw [← hP]; split
    · rename_i h; rw [setF_ne (fun e => h2 ⟨h, e⟩), setF_ne h1]
    · rw [setF_ne h1]
  have Px : P m.x m.y = m.cell r := by
    rw [← hP]; split
    · rw [setF_ne (by omega), setF_eq i0]
    · rw [setF_eq i0]
  have Px1 : wt r = 2 → P (m.x + 1) m.y = m.cell (-1) := fun h => by rw [← hP, if_pos h, setF_eq (hin h)]
  unfold putC partC
  try simp only []
  rw [hP]
  generalize hQ : (if 0 < m.x ∧ two (P (m.x - 1) m.y).r = true then setF P m.w m.g (m.x - 1) m.y (P (m.x - 1) m.y).clr else P) = Q
  have Pm : P (m.x - 1) m.y = C (m.x - 1) m.y := P0 _ _ (by omega) (by omega)
  have Q0 : ∀ z y, ¬(z = m.x - 1 ∧ y = m.y) → Q z y = P z y := fun z y h => by
    rw [← hQ]; split
    · rw [setF_ne h]
    · rfl
  have Qm : Q (m.x - 1) m.y = if 0 < m.x ∧ two (C (m.x - 1) m.y).r = true then (C (m.x - 1) m.y).clr else C (m.x - 1) m.y := by
    rw [← hQ, Pm]; split
    · rename_i h
      rw [setF_eq (hin2 _ (fun e => by have := two_iff.1 h.2; rw [e, wt_low (by omega)] at this; omega))]
    · exact Pm
  have Qn : Q (m.x + wt r) m.y = C (m.x + wt r) m.y := by rw [Q0 _ _ (by omega), P0 _ _ (by omega) (by omega)]
  rw [Qn]
  have main : (if (C (m.x + wt r) m.y).r = -1 then setF Q m.w m.g (m.x + wt r) m.y (C (m.x + wt r) m.y).clr else Q) a b = if a = m.x + wt r ∧ b = m.y ∧ (C a b).r = -1 then (C a b).clr else Q a b := by
    by_cases h : (C (m.x + wt r) m.y).r = -1
    · rw [if_pos h]
      by_cases h2 : a = m.x + wt r ∧ b = m.y
      · obtain ⟨rfl, rfl⟩ := h2
        rw [setF_eq (hin2 _ (by rw [h]; decide)), if_pos ⟨rfl, rfl, h⟩]
      · rw [setF_ne h2, if_neg (fun x => h2 ⟨x.1, x.2.1⟩)]
    · rw [if_neg h, if_neg (fun x => h (by rw [← x.1, ← x.2.1]; exact x.2.2))]
  rw [main]
  by_cases hb : b = m.y
  · subst hb
    rw [if_pos rfl]
    by_cases h1 : a = m.x
    · subst h1
      rw [if_pos rfl, if_neg (by omega), Q0 _ _ (by omega), Px]
    · rw [if_neg h1]
      by_cases h2 : wt r = 2 ∧ a = m.x + 1
      · obtain ⟨h2, rfl⟩ := h2
        rw [if_pos (c := wt r = 2 ∧ m.x + 1 = m.x + 1) ⟨h2, rfl⟩, if_neg (by omega), Q0 _ _ (by omega), Px1 h2]
      · rw [if_neg h2]
        by_cases h3 : a = m.x - 1
        · subst h3
          rw [if_neg (by omega), Qm]
          by_cases h4 : 0 < m.x ∧ two (C (m.x - 1) m.y).r = true
          · rw [if_pos h4, if_pos ⟨rfl, h4⟩]
          · rw [if_neg h4, if_neg (fun x => h4 x.2), if_neg (by omega)]
        · rw [if_neg (c := a = m.x - 1 ∧ 0 < m.x ∧ two (C a m.y).r = true) (fun x => h3 x.1), Q0 _ _ (fun x => h3 x.1), P0 _ _ (fun x => h1 x.1) (fun x => h2 ⟨x.1, x.2.1⟩)]
          simp only [true_and]
  · rw [if_neg hb, if_neg (fun x => hb x.2.1), Q0 _ _ (fun x => hb x.2), P0 _ _ (fun x => hb x.2) (fun x => hb x.2.2)]
theorem wt_m1 : wt (-1) = -1 := wt_low (by decide)
theorem wt_0 : wt 0 = -1 := wt_low (by decide)
theorem put_row {m : Sc} {C : Cel} {r : Int} (hy : 0 ≤ m.y ∧ m.y < m.g) (hx : 0 ≤ m.x ∧ m.x + wt r ≤ m.w) (hr : wt r = 1 ∨ wt r = 2) (ho : ∀ x y, ¬ inG m.w m.g x y = true → C x y = ce0) : RowTo C (putC m C r) m.w m.y := by
  refine ⟨fun a b hb => by rw [put_at hy hx hr ho, if_neg hb], fun hw x h0 h1 => ?_⟩
  have P := fun a => put_at (a := a) (b := m.y) hy hx hr ho
  simp only [if_true] at P
  have hrm : r ≠ -1 := fun e => by rw [e, wt_m1] at hr; omega
  have c1 : (m.cell r).r = r := rfl
  have c2 : (m.cell (-1)).r = -1 := rfl
  have c3 : ∀ c : Ce, c.clr.r = 0 := fun _ => rfl
  have W := hw x h0 h1
  refine ⟨fun h => ?_, fun h => ?_⟩
  · rw [P x] at h
    by_cases a1 : x = m.x
    · rw [if_pos a1, c1] at h
      refine ⟨by omega, ?_⟩
      rw [P, if_neg (by omega), if_pos ⟨h, by omega⟩, c2]
    · rw [if_neg a1] at h
      by_cases a2 : wt r = 2 ∧ x = m.x + 1
      · rw [if_pos a2, c2, wt_m1] at h; omega
      · rw [if_neg a2] at h
        by_cases a3 : x = m.x - 1 ∧ 0 < m.x ∧ two (C x m.y).r = true
        · rw [if_pos a3, c3, wt_0] at h; omega
        · rw [if_neg a3] at h
          by_cases a4 : x = m.x + wt r ∧ (C x m.y).r = -1
          · rw [if_pos a4, c3, wt_0] at h; omega
          · rw [if_neg a4] at h
            have w1 := W.1 h
            refine ⟨w1.1, ?_⟩
            have b1 : x + 1 ≠ m.x := fun e => a3 ⟨by omega, by omega, two_iff.2 h⟩
            rw [P, if_neg b1, if_neg (by omega), if_neg (fun z => by have := two_iff.1 z.2.2; rw [w1.2, wt_m1] at this; omega), if_neg (fun z => by rcases hr with hr | hr <;> rw [hr] at z a2 <;> omega)]
            exact w1.2
  · rw [P x] at h
    by_cases a1 : x = m.x
    · rw [if_pos a1, c1] at h; exact (hrm h).elim
    · rw [if_neg a1] at h
      by_cases a2 : wt r = 2 ∧ x = m.x + 1
      · refine ⟨by omega, ?_⟩
        rw [P, if_pos (by omega), c1]; exact a2.1
      · rw [if_neg a2] at h
        by_cases a3 : x = m.x - 1 ∧ 0 < m.x ∧ two (C x m.y).r = true
        · rw [if_pos a3, c3] at h; omega
        · rw [if_neg a3] at h
          by_cases a4 : x = m.x + wt r ∧ (C x m.y).r = -1
          · rw [if_pos a4, c3] at h; omega
          · rw [if_neg a4] at h
            have w1 := W.2 h
            refine ⟨w1.1, ?_⟩
            have b4 : x ≠ m.x + wt r := fun e => a4 ⟨e, h⟩
            rw [P, if_neg (fun z => by rcases hr with hr | hr <;> rw [hr] at a2 b4 <;> omega), if_neg (fun z => by have := z.1; rw [this] at b4; omega), if_neg (by omega), if_neg (fun z => by have := w1.2; rw [z.2, wt_m1] at this; omega)]
            exact w1.2

section
variable {h0 h : Heap} {F : List HP} {R : Value → Heap → Prop} {k kg : Nat} {m : Sc} {C : Cel} {off : List (List Ce)} {y : Int}
theorem fillb {ov : Value} {rs : List (CV × List Ce)} {r : Rc} {J : Heap → Prop} (e : rs.map (·.2) = off) (es : m.st.length = 512) (so : HW.Sep h0 (Blk k (scL m kg ov).toArray 64 :: Gc kg m.w m.g C :: Sl encCV 1 ov (rs.map (·.1)) :: rowsP rs :: F) h) (H : ∀ h', HW.Sep h0 (Scr k m (fillF C m.w m.g r m.bl) off :: F) h' → J h') : screen_Screen_blank_c (ptr k 0) h fun x h1 => Hk k m kg ov h1 ∧ (grid_Grid_Fill_c (ptr kg 0) r.v x h1 fun _ h2 => J h2) := by
  refine blank_b so.has (fun h2 e2 => ⟨e2.has so.has, ?_⟩)
  exact gfill_spec (r := r) (so.ext' e2).b1 (fun n2 h3 s3 => H h3 (Sshut (kg := kg) (ov := ov) e es s3.b1))
theorem wipe_spec {f t : Int} (hG : G h0) (z : HW.Sep h0 (Scr k m C off :: F) h) (hy : 0 ≤ y ∧ y < m.g) (hf : 0 ≤ f ∧ f ≤ t ∧ t ≤ m.w) (H : ∀ D h', Mended (fillF C m.w m.g ⟨f, y, t - f, 1⟩ m.bl) D m.w y → HW.Sep h0 (Scr k m D off :: F) h' → R unit h') : screen_Screen_wipe_c (ptr k 0) (.int .i64 y) (.int .i64 f) (.int .i64 t) h R := by
  apply screen_Screen_wipe_runs
  unfold screen_Screen_wipe_S
  have sz := Ssz z
  obtain ⟨kg, ov, rs, e, es, so⟩ := Sopen z
  refine ⟨Hk k m kg ov, so.has, ?_⟩
  simp (disch := omega) only [ev_nil, ev_off, Nat.zero_add, (rdc so.has).r0, ev_sub, wrap_i64]
  refine build_intro (cs := (⟨f, y, t - f, 1⟩ : Rc).c) ⟨rfl, Nat.le_of_ble_eq_true rfl, rfl, Nat.le_of_ble_eq_true rfl, rfl, Nat.le_of_ble_eq_true rfl, rfl, Nat.le_of_ble_eq_true rfl, rfl⟩ ?_
  refine fillb (r := ⟨f, y, t - f, 1⟩) e es so (fun h2 s2 => ?_)
  exact mend_spec hG s2 hy H
theorem EraseLine_spec {kind : Int} (hG : G h0) (z : HW.Sep h0 (Scr k m C off :: F) h) (o : OkS m) (H0 : ¬(0 ≤ kind ∧ kind ≤ 2) → R unit h) (H : (0 ≤ kind ∧ kind ≤ 2) → ∀ D h', Mended (fillF C m.w m.g ⟨lineFrom m kind, m.y, lineTo m kind - lineFrom m kind, 1⟩ m.bl) D m.w m.y → HW.Sep h0 (Scr k m D off :: F) h' → R unit h') : screen_Screen_EraseLine_c (ptr k 0) (.int .i64 kind) h R := by
  apply screen_Screen_EraseLine_runs
  unfold screen_Screen_EraseLine_S
  unfold lineFrom lineTo at H
  have ox := o.x
  have ow := o.w
  refine cur_spec ?_
  simp (disch := omega) only [ev_nil, ev_off, Nat.add_zero, Nat.zero_add, Nat.reduceAdd, (rd z).r3, (rd z).r4, (rd z).r1, ev_add, wrap_i64, ev_eq, ev_if, beq_iff_eq]
  by_cases a0 : kind = 0
  · subst a0
    rw [if_pos rfl]
    exact wipe_spec hG z o.y (by omega) (fun D h' md s' => H (by decide) D h' md s')
  rw [if_neg a0]
  by_cases a1 : kind = 1
  · subst a1
    rw [if_pos rfl]
    exact wipe_spec hG z o.y (by omega) (fun D h' md s' => H (by decide) D h' md s')
  rw [if_neg a1]
  by_cases a2 : kind = 2
  · subst a2
    rw [if_pos rfl]
    exact wipe_spec hG z o.y (by omega) (fun D h' md s' => H (by decide) D h' md s')
  rw [if_neg a2]
  exact H0 (by omega)
def eraseC (m : Sc) (C : Cel) (kind : Int) : Cel :=
  let C1 := if kind ≠ 0 then fillF C m.w m.g ⟨0, 0, m.w, m.y⟩ m.bl else C
  if kind ≠ 1 then fillF C1 m.w m.g ⟨0, m.y + 1, m.w, m.g - m.y - 1⟩ m.bl else C1
theorem Erase_spec {kind : Int} (hG : G h0) (z : HW.Sep h0 (Scr k m C off :: F) h) (o : OkS m) (H0 : ¬(0 ≤ kind ∧ kind ≤ 2) → R unit h) (H : (0 ≤ kind ∧ kind ≤ 2) → ∀ D h', Mended (fillF (eraseC m C kind) m.w m.g ⟨lineFrom m kind, m.y, lineTo m kind - lineFrom m kind, 1⟩ m.bl) D m.w m.y → HW.Sep h0 (Scr k m D off :: F) h' → R unit h') : screen_Screen_Erase_c (ptr k 0) (.int .i64 kind) h R := by
  apply screen_Screen_Erase_runs
  unfold screen_Screen_Erase_S
  have og := o.g
  have oy := o.y
  simp only [ev_lt, ev_gt, ev_or_p, ev_if, Bool.or_eq_true, decide_eq_true_eq]
  by_cases hk : 0 ≤ kind ∧ kind ≤ 2
  · rw [if_neg (by omega)]
    have H := H hk
    unfold eraseC at H
    simp only [] at H
    refine cur_spec ?_
    have hj2 : ∀ (E : Cel) (h1 : Heap), HW.Sep h0 (Scr k m E off :: F) h1 → E = (if kind ≠ 1 then fillF (if kind ≠ 0 then fillF C m.w m.g ⟨0, 0, m.w, m.y⟩ m.bl else C) m.w m.g ⟨0, m.y + 1, m.w, m.g - m.y - 1⟩ m.bl else (if kind ≠ 0 then fillF C m.w m.g ⟨0, 0, m.w, m.y⟩ m.bl else C)) → screen_Screen_Erase_j2 R (ptr k 0) (.int .i64 kind) h1 := by
      intro E h1 s1 eE
      unfold screen_Screen_Erase_j2
      refine EraseLine_spec hG s1 o (fun hn => (hn hk).elim) (fun _ D h' md s' => H D h' (by rw [← eE]; exact md) s')
    have hj1 : ∀ (E : Cel) (h1 : Heap), HW.Sep h0 (Scr k m E off :: F) h1 → E = (if kind ≠ 0 then fillF C m.w m.g ⟨0, 0, m.w, m.y⟩ m.bl else C) → screen_Screen_Erase_j1 R (ptr k 0) (.int .i64 kind) (.int .i64 m.y) h1 := by
      intro E h1 s1 eE
      unfold screen_Screen_Erase_j1
      rw [ev_ne, ev_if]
      by_cases h1k : kind = 1
      · rw [if_neg (by simp [h1k])]
        exact hj2 E h1 s1 (by rw [if_neg (by simp [h1k])]; exact eE)
      · rw [if_pos (by simpa using h1k)]
        obtain ⟨kg, ov, rs, e, es, so⟩ := Sopen s1
        refine ⟨Hk k m kg ov, so.has, ?_⟩
        simp (disch := omega) only [ev_nil, ev_off, Nat.zero_add, (rdc so.has).r0, (rdc so.has).r1, (rdc so.has).r2, ev_sub, ev_add, wrap_i64]
        refine build_intro (cs := (⟨0, m.y + 1, m.w, m.g - m.y - 1⟩ : Rc).c) ⟨rfl, Nat.le_of_ble_eq_true rfl, rfl, Nat.le_of_ble_eq_true rfl, rfl, Nat.le_of_ble_eq_true rfl, rfl⟩ ?_
        refine fillb (r := ⟨0, m.y + 1, m.w, m.g - m.y - 1⟩) e es so (fun h2 s2 => ?_)
        exact hj2 _ h2 s2 (by rw [if_pos h1k, eE])
    simp only [ev_nil, ev_off, Nat.zero_add, Nat.reduceAdd, (rd z).r4, ev_ne, ev_if]
    by_cases h0k : kind = 0
    · rw [if_neg (by simp [h0k])]
      exact hj1 C h z (by rw [if_neg (by simp [h0k])])
    · rw [if_pos (by simpa using h0k)]
      obtain ⟨kg, ov, rs, e, es, so⟩ := Sopen z
      refine ⟨Hk k m kg ov, so.has, ?_⟩
      simp (disch := omega) only [ev_nil, ev_off, Nat.zero_add, (rdc so.has).r0, (rdc so.has).r1, (rdc so.has).r2, ev_sub, ev_add, wrap_i64]
      refine build_intro (cs := (⟨0, 0, m.w, m.y⟩ : Rc).c) ⟨rfl, Nat.le_of_ble_eq_true rfl, rfl, Nat.le_of_ble_eq_true rfl, rfl⟩ ?_
      refine fillb (r := ⟨0, 0, m.w, m.y⟩) e es so (fun h2 s2 => ?_)
      exact hj1 _ h2 s2 (by rw [if_pos h0k])
  · rw [if_pos (by omega)]
    exact H0 hk
theorem mended_row {C E D : Cel} {w y : Int} (md : Mended E D w y) (h : ∀ a b, b ≠ y → E a b = C a b) : RowTo C D w y := ⟨fun a b hb => by rw [md.other a b hb, h a b hb], fun _ => md.whole⟩
theorem Cells_spec {n : Int} {ins : Bool} (hG : G h0) (z : HW.Sep h0 (Scr k m C off :: F) h) (o : OkS m) (H : ∀ D h', RowTo C D m.w m.y → HW.Sep h0 (Scr k { m with late := false } D off :: F) h' → R unit h') : screen_Screen_Cells_c (ptr k 0) (.int .i64 n) (.bool ins) h R := by
  apply screen_Screen_Cells_runs
  unfold screen_Screen_Cells_S
  have ox := o.x
  have ow := o.w
  have oy := o.y
  have og := o.g
  refine cur_spec ?_
  simp only [ev_nil, ev_off, Nat.zero_add, Nat.reduceAdd, Nat.add_zero]
  refine st5 z (fun h1 s1 => ?_)
  simp (disch := omega) only [(rd s1).r1, (rd s1).r3, (rd s1).r4, ev_sub, wrap_i64, ev_min]
  rw [show (if m.w - m.x < n then m.w - m.x else n) = mnI n (m.w - m.x) from rfl]
  have hq : mnI n (m.w - m.x) ≤ m.w - m.x := by unfold mnI; split <;> omega
  generalize mnI n (m.w - m.x) = q at hq ⊢
  rw [ev_lt, ev_if]
  by_cases hl : q < 1
  · rw [if_pos (decide_eq_true hl)]
    exact H C h1 (RowTo.refl _ _ _) s1
  rw [if_neg (by simpa using hl)]
  simp (disch := omega) only [ev_sub, ev_add, wrap_i64, ev_if]
  obtain ⟨kg, ov, rs, e, es, so⟩ := Sopen s1
  have f0 : ∀ {K : Value → Prop}, sLd h1 (ptr k 0) K = K (ptr kg 0) := ldL so.has rfl
  simp only [f0]
  cases ins with
  | true =>
    rw [if_pos rfl]
    refine build_intro (cs := (⟨m.x, m.y, m.w - m.x - q, 1⟩ : Rc).c) ⟨rfl, Nat.le_of_ble_eq_true rfl, rfl, Nat.le_of_ble_eq_true rfl, rfl, Nat.le_of_ble_eq_true rfl, rfl, Nat.le_of_ble_eq_true rfl, rfl⟩ ?_
    refine gcopy_spec (r := ⟨m.x, m.y, m.w - m.x - q, 1⟩) so.b1 (by simp only; omega) (by simp only; omega) (by simp only; omega) (fun n1 h2 s2 => ?_)
    have s3 := Sshut e es s2.b1
    simp only [(rd s3).r4, (rd s3).r3]
    refine wipe_spec hG s3 oy (by simp only; omega) (fun D h' md s' => H D h' (mended_row md (fun a b hb => ?_)) s')
    rw [fill_other hb]
    unfold copyF; simp only; rw [if_neg (by omega)]
  | false =>
    rw [if_neg (by decide)]
    refine build_intro (cs := (⟨m.x + q, m.y, m.w - m.x - q, 1⟩ : Rc).c) ⟨rfl, Nat.le_of_ble_eq_true rfl, rfl, Nat.le_of_ble_eq_true rfl, rfl, Nat.le_of_ble_eq_true rfl, rfl, Nat.le_of_ble_eq_true rfl, rfl⟩ ?_
    refine gcopy_spec (r := ⟨m.x + q, m.y, m.w - m.x - q, 1⟩) so.b1 (by simp only; omega) (by simp only; omega) (by simp only; omega) (fun n1 h2 s2 => ?_)
    have s3 := Sshut e es s2.b1
    simp (disch := omega) only [(rd s3).r4, (rd s3).r1, ev_sub, wrap_i64]
    refine wipe_spec hG s3 oy (by simp only; omega) (fun D h' md s' => H D h' (mended_row md (fun a b hb => ?_)) s')
    rw [fill_other hb]
    unfold copyF; simp only; rw [if_neg (by omega)]
theorem Lines_spec {n : Int} {ins : Bool} (z : HW.Sep h0 (Scr k m C off :: F) h) (o : OkS m) (H0 : ∀ h', HW.Sep h0 (Scr k { m with late := false } C off :: F) h' → R unit h') (H1 : m.top ≤ m.y ∧ m.y ≤ m.bot → ∀ h', HW.Sep h0 (Scr k { m with late := false, x := 0 } (if ins = true then downC m C m.y n else (if mnI n (m.bot - m.y + 1) < 1 then C else upF C m.w m.g m.y m.bot (mnI n (m.bot - m.y + 1)) m.bl)) off :: F) h' → R unit h') : screen_Screen_Lines_c (ptr k 0) (.int .i64 n) (.bool ins) h R := by
  apply screen_Screen_Lines_runs
  unfold screen_Screen_Lines_S
  have oy := o.y
  have ot := o.t
  refine cur_spec ?_
  simp only [ev_nil, ev_off, Nat.zero_add, Nat.reduceAdd, Nat.add_zero]
  refine st5 z (fun h1 s1 => ?_)
  simp only [(rd s1).r4, (rd s1).r19, (rd s1).r20, ev_lt, ev_gt, ev_or_p, ev_if, Bool.or_eq_true, decide_eq_true_eq]
  by_cases hc : (n < 1 ∨ m.y < m.top) ∨ m.y > m.bot
  · rw [if_pos hc]
    exact H0 h1 s1
  rw [if_neg hc]
  have H1 := H1 (by omega)
  refine st3 s1 (fun h2 s2 => ?_)
  simp only [(rd s2).r4]
  cases ins with
  | true =>
    rw [if_pos rfl] at H1 ⊢
    exact down_spec s2 (by simp only; omega) H1
  | false =>
    rw [if_neg (by decide)] at H1 ⊢
    exact up_spec s2 (by simp only; omega) H1
end
end Go.Proofs.YtmhhjpfkipficaaDoor

end

section
/- Screens: a rune is put. -/
set_option linter.unusedSimpArgs false
set_option linter.unusedVariables false
namespace Go.Proofs.YtmhhjpfkipficaaDoor
open Go Go.HW

section
variable {h0 h : Heap} {F : List HP} {R : Value → Heap → Prop} {k kg : Nat} {m : Sc} {C : Cel} {off : List (List Ce)} {y : Int}
theorem pen_ldn (z : HW.Sep h0 (Scr k m C off :: F) h) {K : Value → Prop} : sLdN h (ptr k 6) 3 K = K (.agg (penA m.pf m.pb m.pg)) := mldn z (cs := [.int .i64 m.pf, .int .i64 m.pb, .int .i64 m.pg]) (by decide) (fun _ _ => rfl)
theorem part_spec {x n : Int} (hG : G h0) (z : HW.Sep h0 (Scr k m C off :: F) h) (hy : 0 ≤ y ∧ y < m.g) (hx : 0 ≤ x ∧ x < m.w) (hn : 0 ≤ n ∧ n ≤ 2) (H : ∀ h', HW.Sep h0 (Scr k m (partC C m.w m.g x n y) off :: F) h' → R unit h') : screen_Screen_part_c (ptr k 0) (.int .i64 x) (.int .i64 n) (.int .i64 y) h R := by
  apply screen_Screen_part_runs
  unfold screen_Screen_part_S
  have sz := Ssz z
  unfold partC at H
  simp only [] at H
  have hj1 : ∀ (E : Cel) (h1 : Heap), E = (if 0 < x ∧ two (C (x - 1) y).r = true then setF C m.w m.g (x - 1) y (C (x - 1) y).clr else C) → HW.Sep h0 (Scr k m E off :: F) h1 → screen_Screen_part_j1 R (ptr k 0) (.int .i64 x) (.int .i64 n) (.int .i64 y) h1 := by
    intro E h1 eE s1
    unfold screen_Screen_part_j1
    rw [← eE] at H
    obtain ⟨kg, f0, zg⟩ := mg s1
    simp (disch := omega) only [ev_nil, ev_off, Nat.zero_add, f0, ev_add, wrap_i64]
    refine gat_spec (by unfold i64; omega) (by unfold i64; omega) zg (fun h2 e2 => ?_)
    refine (s1.ext' e2).new (fun b3 h3 s3 => ?_)
    refine s3.stall (cs := (E (x + n) y).a) rfl rfl (ce_cell _) (fun h4 s4 => ?_)
    have g0 : ∀ {K : Value → Prop}, sLd h4 (ptr b3 0) K = K (.int .i32 (E (x + n) y).r) := s4.ld rfl
    simp only [ev_off, Nat.zero_add, g0, ev_eq, ev_if, beq_iff_eq]
    by_cases hr : (E (x + n) y).r = -1
    · rw [if_pos hr] at H
      rw [if_pos hr]
      obtain ⟨kg4, f4, -⟩ := mg s4.b1
      simp only [f4]
      rw [s4.ldn (Nat.le_refl 4)]
      refine build_intro (cs := (E (x + n) y).clr.a) ⟨rfl, Nat.le_of_ble_eq_true rfl, rfl⟩ ?_
      exact Scr_set (by unfold i64; omega) (by unfold i64; omega) s4.b1 f4 (fun h5 s5 => H h5 s5.drop1)
    · rw [if_neg hr] at H
      rw [if_neg hr]
      exact H h4 s4.tail
  obtain ⟨kg, f0, zg⟩ := mg z
  simp (disch := omega) only [ev_nil, ev_off, Nat.zero_add, f0, ev_sub, wrap_i64]
  refine gat_spec (by unfold i64; omega) (by unfold i64; omega) zg (fun h2 e2 => ?_)
  refine (z.ext' e2).new (fun b3 h3 s3 => ?_)
  refine s3.stall (cs := (C (x - 1) y).a) rfl rfl (ce_cell _) (fun h4 s4 => ?_)
  have g0 : ∀ {K : Value → Prop}, sLd h4 (ptr b3 0) K = K (.int .i32 (C (x - 1) y).r) := s4.ld rfl
  simp only [ev_off, Nat.zero_add, g0, ev_gt, ev_and_p]
  refine and_ext (y := wt (C (x - 1) y).r == 2) (fun _ K' HK => ?_) (fun h5 e5 => ?_)
  · refine width_spec (hG.ext s4.ext) (fun h5 e5 => ?_)
    rw [ev_eq]
    exact HK h5 e5
  have s5 := s4.ext' e5
  rw [Bool.and_assoc, two_pos, ev_if]
  by_cases hc : 0 < x ∧ two (C (x - 1) y).r = true
  · rw [if_pos (by simp [hc])]
    obtain ⟨kg5, f5, -⟩ := mg s5.b1
    simp only [f5]
    rw [s5.ldn (Nat.le_refl 4)]
    refine build_intro (cs := (C (x - 1) y).clr.a) ⟨rfl, Nat.le_of_ble_eq_true rfl, rfl⟩ ?_
    exact Scr_set (by unfold i64; omega) (by unfold i64; omega) s5.b1 f5 (fun h6 s6 => hj1 _ h6 (by rw [if_pos hc]) s6.drop1)
  · rw [if_neg (by simpa using hc)]
    exact hj1 _ h5 (by rw [if_neg hc]) s5.tail
/-- What is put, where the cursor is. -/
theorem put_j3 {r : Int} (hG : G h0) (z : HW.Sep h0 (Scr k m C off :: F) h) (ow : 1 ≤ m.w ∧ m.w ≤ 512) (og : 1 ≤ m.g ∧ m.g ≤ 512) (oy : 0 ≤ m.y ∧ m.y < m.g) (ox : 0 ≤ m.x ∧ m.x + wt r ≤ m.w) (hr : wt r = 1 ∨ wt r = 2) (H : ∀ h', HW.Sep h0 (Scr k (stepM m r) (putC m C r) off :: F) h' → R unit h') : screen_Screen_Put_j3 R (ptr k 0) (.int .i32 r) (.int .i64 (wt r)) (ptr k 3) h := by
  unfold screen_Screen_Put_j3
  unfold putC at H
  simp only [] at H
  have hj4 : ∀ (E : Cel) (h1 : Heap), E = (if wt r = 2 then setF (setF C m.w m.g m.x m.y (m.cell r)) m.w m.g (m.x + 1) m.y (m.cell (-1)) else setF C m.w m.g m.x m.y (m.cell r)) → HW.Sep h0 (Scr k m E off :: F) h1 → screen_Screen_Put_j4 R (ptr k 0) (.int .i64 (wt r)) (ptr k 3) h1 := by
    intro E h1 eE s1
    unfold screen_Screen_Put_j4
    rw [← eE] at H
    simp only [ev_nil, ev_off, Nat.zero_add, Nat.add_zero, Nat.reduceAdd, (rd s1).r3, (rd s1).r4]
    refine part_spec hG s1 oy (by omega) (by omega) (fun h2 s2 => ?_)
    simp (disch := omega) only [(rd s2).r3, ev_add, wrap_i64]
    refine st3 s2 (fun h3 s3 => st5 s3 (fun h4 s4 => ?_))
    simp only [(rd s4).r3, (rd s4).r1, ev_eq, ev_if, beq_iff_eq]
    unfold stepM at H
    by_cases he : m.x + wt r = m.w
    · rw [if_pos he] at H
      rw [if_pos he]
      simp (disch := omega) only [ev_sub, wrap_i64]
      refine st3 s4 (fun h5 s5 => ?_)
      rw [(rd s5).r17]
      exact st5 s5 H
    · rw [if_neg he] at H
      rw [if_neg he]
      exact H h4 s4
  obtain ⟨kg, f0, -⟩ := mg z
  simp only [ev_nil, ev_off, Nat.zero_add, Nat.add_zero, Nat.reduceAdd, f0, (rd z).r3, (rd z).r4, pen_ldn z]
  refine build_intro (cs := (m.cell r).a) ⟨rfl, Nat.le_of_ble_eq_true rfl, rfl, Nat.le_of_ble_eq_true rfl, rfl⟩ ?_
  refine Scr_set (by unfold i64; omega) (by unfold i64; omega) z f0 (fun h1 s1 => ?_)
  rw [ev_eq, ev_if]
  by_cases h2 : wt r = 2
  · rw [if_pos (by simpa using h2)]
    obtain ⟨kg1, f1, -⟩ := mg s1
    simp (disch := omega) only [f1, (rd s1).r3, (rd s1).r4, pen_ldn s1, ev_add, wrap_i64]
    refine build_intro (cs := (m.cell (-1)).a) ⟨rfl, Nat.le_of_ble_eq_true rfl, rfl, Nat.le_of_ble_eq_true rfl, rfl⟩ ?_
    exact Scr_set (by unfold i64; omega) (by unfold i64; omega) s1 f1 (fun h2 s2 => hj4 _ h2 (by rw [if_pos (by assumption)]) s2)
  · rw [if_neg (by simpa using h2)]
    exact hj4 _ h1 (by rw [if_neg h2]) s1
/-- The plain way: without insertion. -/
theorem Put_plain {r : Int} (hG : G h0) (z : HW.Sep h0 (Scr k m C off :: F) h) (o : OkS m) (hb : off.length ≤ 900000) (hi : m.ins = false) (hr : wt r = 1) (H : ∀ h', HW.Sep h0 (Scr k (stepM (putM1 m) r) (putC (putM1 m) (putC1 m C) r) (putO1 m C off) :: F) h' → R unit h') : screen_Screen_Put_c (ptr k 0) (.int .i32 r) h R := by
  apply screen_Screen_Put_runs
  unfold screen_Screen_Put_S
  have ow := o.w
  have ox := o.x
  refine width_spec (hG.ext z.ext) (fun h1 e1 => ?_)
  have s1 := z.ext' e1
  refine cur_spec ?_
  simp only [ev_nil, ev_off, Nat.zero_add, Nat.add_zero, Nat.reduceAdd, (rd s1).r1, (rd s1).r5, (rd s1).r17, ev_lt, ev_gt, ev_or_p, ev_and_p, ev_if]
  rw [hr, if_neg (by simp; omega)]
  have hj1 : ∀ (m' : Sc) (C' : Cel) (off' : List (List Ce)) (h2 : Heap), m' = putM1 m → C' = putC1 m C → off' = putO1 m C off → m'.w = m.w → m'.g = m.g → m'.ins = false → (0 ≤ m'.x ∧ m'.x < m'.w) → (0 ≤ m'.y ∧ m'.y < m'.g) → HW.Sep h0 (Scr k m' C' off' :: F) h2 → screen_Screen_Put_j1 R (ptr k 0) (.int .i32 r) (.int .i64 1) (ptr k 3) h2 := by
    intro m' C' off' h2 em eC eo ew eg ei ex ey s2
    rw [← em, ← eC, ← eo] at H
    unfold screen_Screen_Put_j1
    simp (disch := omega) only [ev_nil, ev_off, Nat.zero_add, Nat.add_zero, (rd s2).r3, (rd s2).r1, (rd s2).r17, ev_add, wrap_i64, ev_gt, ev_and_p, ev_if]
    have hng : decide (m'.x + 1 > m'.w) = false := by simp; omega
    rw [hng, Bool.false_and, if_neg (by decide), if_neg (by decide)]
    unfold screen_Screen_Put_j2
    simp only [ev_nil, ev_off, Nat.zero_add, (rd s2).r18, ev_if, ei]
    rw [if_neg (by decide)]
    have := put_j3 (R := R) (r := r) hG s2 (by rw [ew]; exact o.w) (by rw [eg]; exact o.g) ey (by omega) (.inl hr) H
    rw [hr] at this
    exact this
  by_cases hl : (m.late && m.wrap) = true
  · rw [if_pos hl]
    refine wrapped_spec s1 o (by omega) (fun h2 s2 => ?_)
    refine hj1 _ _ _ h2 (by unfold putM1; rw [if_pos hl]) (by unfold putC1; rw [if_pos hl]) (by unfold putO1; rw [if_pos hl]) ?_ ?_ ?_ ?_ ?_ s2
    all_goals have := o.g; have := o.y; unfold wrapM lineM; simp only
    all_goals repeat' split
    all_goals first | rfl | exact hi | (simp only; omega)
  · rw [if_neg hl]
    exact hj1 m C off h1 (by unfold putM1; rw [if_neg hl]) (by unfold putC1; rw [if_neg hl]) (by unfold putO1; rw [if_neg hl]) rfl rfl hi o.x o.y s1
end
end Go.Proofs.YtmhhjpfkipficaaDoor

end

section
/- The shallow reading of one function, and that the function does it. Written by a program. -/
set_option linter.unusedVariables false
namespace Go.Proofs.YtmhhjpfkipficaaDoor
open Go Go.HW

def screen_New_l1 (R : Value → Heap → Prop) (x19 : Value) (next : Value → Heap → Prop) (x20 : Value) (h_2 : Heap) : Prop :=
  sLt x20 (.int .i64 512) fun x21 =>
  sIf x21 (screen_isStop_c x20 h_2 fun x26 h_3 => 
  sNil x19 fun x27 =>
  sOff x27 21 fun x28 =>
  sIxA x28 x20 512 1 fun x29 =>
  sSt h_3 x29 x26 fun h_4 => 
  sAdd .i64 x20 (.int .i64 1) fun x30 =>
  next x30 h_4) (R x19 h_2)
def screen_New_S (x0 x1 : Value) (h : Heap) (R : Value → Heap → Prop) : Prop :=
  grid_New_c x0 x1 h fun x10 h => 
  sEqlNil x10 fun x12 =>
  sIf x12 (R (.pointer none) h) (sSub .i64 x1 (.int .i64 1) fun x17 =>
  sBuild #[.pointer none, .int .i64 0, .int .i64 0, .int .i64 0, .int .i64 0, .bool false, .int .i64 0, .int .i64 0, .int .i64 0, .bool false, .int .i64 0, .int .i64 0, .bool false, .int .i64 0, .int .i64 0, .int .i64 0, .bool false, .bool false, .bool false, .int .i64 0, .int .i64 0, .bool false, .bool false, .bool false, .bool false, .bool false, .bool false, .bool false, .bool false, .bool false, .bool false, .bool false, .bool false, .bool false, .bool false, .bool false, .bool false, .bool false, .bool false, .bool false, .bool false, .bool false, .bool false, .bool false, .bool false, .bool false, .bool false, .bool false, .bool false, .bool false, .bool false, .bool false, .bool false, .bool false, .bool false, .bool false, .bool false, .bool false, .bool false, .bool false, .bool false, .bool false, .bool false, .bool false, .bool false, .bool false, .bool false, .bool false, .bool false, .bool false, .bool false, .bool false, .bool false, .bool false, .bool false, .bool false, .bool false, .bool false, .bool false, .bool false, .bool false, .bool false, .bool false, .bool false, .bool false, .bool false, .bool false, .bool false, .bool false, .bool false, .bool false, .bool false, .bool false, .bool false, .bool false, .bool false, .bool false, .bool false, .bool false, .bool false, .bool false, .bool false, .bool false, .bool false, .bool false, .bool false, .bool false, .bool false, .bool false, .bool false, .bool false, .bool false, .bool false, .bool false, .bool false, .bool false, .bool false, .bool false, .bool false, .bool false, .bool false, .bool false, .bool false, .bool false, .bool false, .bool false, .bool false, .bool false, .bool false, .bool false, .bool false, .bool false, .bool false, .bool false, .bool false, .bool false, .bool false, .bool false, .bool false, .bool false, .bool false, .bool false, .bool false, .bool false, .bool false, .bool false, .bool false, .bool false, .bool false, .bool false, .bool false, .bool false, .bool false, .bool false, .bool false, .bool false, .bool false, .bool false, .bool false, .bool false, .bool false, .bool false, .bool false, .bool false, .bool false, .bool false, .bool false, .bool false, .bool false, .bool false, .bool false, .bool false, .bool false, .bool false, .bool false, .bool false, .bool false, .bool false, .bool false, .bool false, .bool false, .bool false, .bool false, .bool false, .bool false, .bool false, .bool false, .bool false, .bool false, .bool false, .bool false, .bool false, .bool false, .bool false, .bool false, .bool false, .bool false, .bool false, .bool false, .bool false, .bool false, .bool false, .bool false, .bool false, .bool false, .bool false, .bool false, .bool false, .bool false, .bool false, .bool false, .bool false, .bool false, .bool false, .bool false, .bool false, .bool false, .bool false, .bool false, .bool false, .bool false, .bool false, .bool false, .bool false, .bool false, .bool false, .bool false, .bool false, .bool false, .bool false, .bool false, .bool false, .bool false, .bool false, .bool false, .bool false, .bool false, .bool false, .bool false, .bool false, .bool false, .bool false, .bool false, .bool false, .bool false, .bool false, .bool false, .bool false, .bool false, .bool false, .bool false, .bool false, .bool false, .bool false, .bool false, .bool false, .bool false, .bool false, .bool false, .bool false, .bool false, .bool false, .bool false, .bool false, .bool false, .bool false, .bool false, .bool false, .bool false, .bool false, .bool false, .bool false, .bool false, .bool false, .bool false, .bool false, .bool false, .bool false, .bool false, .bool false, .bool false, .bool false, .bool false, .bool false, .bool false, .bool false, .bool false, .bool false, .bool false, .bool false, .bool false, .bool false, .bool false, .bool false, .bool false, .bool false, .bool false, .bool false, .bool false, .bool false, .bool false, .bool false, .bool false, .bool false, .bool false, .bool false, .bool false, .bool false, .bool false, .bool false, .bool false, .bool false, .bool false, .bool false, .bool false, .bool false, .bool false, .bool false, .bool false, .bool false, .bool false, .bool false, .bool false, .bool false, .bool false, .bool false, .bool false, .bool false, .bool false, .bool false, .bool false, .bool false, .bool false, .bool false, .bool false, .bool false, .bool false, .bool false, .bool false, .bool false, .bool false, .bool false, .bool false, .bool false, .bool false, .bool false, .bool false, .bool false, .bool false, .bool false, .bool false, .bool false, .bool false, .bool false, .bool false, .bool false, .bool false, .bool false, .bool false, .bool false, .bool false, .bool false, .bool false, .bool false, .bool false, .bool false, .bool false, .bool false, .bool false, .bool false, .bool false, .bool false, .bool false, .bool false, .bool false, .bool false, .bool false, .bool false, .bool false, .bool false, .bool false, .bool false, .bool false, .bool false, .bool false, .bool false, .bool false, .bool false, .bool false, .bool false, .bool false, .bool false, .bool false, .bool false, .bool false, .bool false, .bool false, .bool false, .bool false, .bool false, .bool false, .bool false, .bool false, .bool false, .bool false, .bool false, .bool false, .bool false, .bool false, .bool false, .bool false, .bool false, .bool false, .bool false, .bool false, .bool false, .bool false, .bool false, .bool false, .bool false, .bool false, .bool false, .bool false, .bool false, .bool false, .bool false, .bool false, .bool false, .bool false, .bool false, .bool false, .bool false, .bool false, .bool false, .bool false, .bool false, .bool false, .bool false, .bool false, .bool false, .bool false, .bool false, .bool false, .bool false, .bool false, .bool false, .bool false, .bool false, .bool false, .bool false, .bool false, .bool false, .bool false, .bool false, .bool false, .bool false, .bool false, .bool false, .bool false, .bool false, .bool false, .bool false, .bool false, .bool false, .bool false, .bool false, .bool false, .bool false, .bool false, .bool false, .bool false, .bool false, .bool false, .bool false, .bool false, .bool false, .bool false, .bool false, .bool false, .bool false, .bool false, .bool false, .bool false, .bool false, .bool false, .bool false, .bool false, .bool false, .bool false, .bool false, .bool false, .bool false, .bool false, .bool false, .bool false, .bool false, .bool false, .bool false, .bool false, .bool false, .bool false, .bool false, .bool false, .bool false, .bool false, .bool false, .bool false, .bool false, .bool false, .bool false, .bool false, .bool false, .bool false, .bool false, .bool false, .bool false, .bool false, .bool false, .bool false, .bool false, .bool false, .bool false, .bool false, .bool false, .bool false, .bool false, .bool false, .bool false, .bool false, .bool false, .bool false, .bool false, .bool false, .slice none 0 0] [(0, 1, x10), (1, 1, x0), (2, 1, x1), (17, 1, (.bool true)), (20, 1, x17)] fun x18 =>
  sBox h x18 64 fun x19 h_1 => 
  sLoop (S := Value) (fun nxt s h => screen_New_l1 R x19 (fun x20' h => nxt x20' h) s h) (.int .i64 0) h_1)
set_option maxRecDepth 100000 in
theorem screen_New_runs {x0 x1 : Value} {h : Heap} {R : Value → Heap → Prop} (H : screen_New_S x0 x1 h R) : screen_New_c x0 x1 h R := by
  unfold screen_New_S at H
  refine runs_of (b := ⟨#[x0, x1, undef, undef, undef, undef, undef, undef, undef, undef, undef, undef, undef, undef, undef, undef, undef, undef, undef, undef, undef, undef, undef, undef, undef, undef, undef, undef, undef, undef, undef, undef], []⟩) Tryd.call8 Tryd.func8 rfl (by kernel_rfl) (fun w0 HA => ?_)
  refine wp_seq ?_
  refine lwp_list ?_
  refine ls_assign (x := (.pointer none)) (by kernel_rfl) (by kernel_rfl) ?_
  refine ls_nil ?_
  refine then_normal ?_
  refine fr_eq (b := ⟨#[x0, x1, undef, undef, (.pointer none), undef, undef, undef, undef, undef, undef, undef, undef, undef, undef, undef, undef, undef, undef, undef, undef, undef, undef, undef, undef, undef, undef, undef, undef, undef, undef, undef], []⟩) (by kernel_rfl) ?_
  refine wp_seq ?_
  refine lwp_list ?_
  refine ls_move (x := x0) (by kernel_rfl) (by kernel_rfl) ?_
  refine ls_move (x := x1) (by kernel_rfl) (by kernel_rfl) ?_
  refine ls_d (d := some 10) (by kernel_rfl) (by kernel_rfl) HA (d_call (by kernel_rfl) (by kernel_rfl) H) (fun x10 h w H HA => ?_)
  refine ls_assign (x := x10) (by kernel_rfl) (by kernel_rfl) ?_
  refine ls_nil ?_
  refine then_normal ?_
  refine fr_eq (b := ⟨#[x0, x1, undef, undef, (.pointer none), x10, undef, undef, x0, x1, x10, undef, undef, undef, undef, undef, undef, undef, undef, undef, undef, undef, undef, undef, undef, undef, undef, undef, undef, undef, undef, undef], []⟩) (by kernel_rfl) ?_
  refine wp_seq ?_
  refine wp_seq ?_
  refine lwp_list ?_
  refine ls_move (x := x10) (by kernel_rfl) (by kernel_rfl) ?_
  refine ls_p (d := some 12) (by kernel_rfl) (by kernel_rfl) (p_eqlNil Tryd.underlying54 (by kernel_rfl) (by kernel_rfl) H) (fun x12 H => ?_)
  refine ls_nil ?_
  refine then_normal ?_
  refine fr_eq (b := ⟨#[x0, x1, undef, undef, (.pointer none), x10, undef, undef, x0, x1, x10, x10, x12, undef, undef, undef, undef, undef, undef, undef, undef, undef, undef, undef, undef, undef, undef, undef, undef, undef, undef, undef], []⟩) (by kernel_rfl) ?_
  refine wp_if rfl H (fun H => ?_) (fun H => ?_)
  · refine wp_seq ?_
    refine lwp_list ?_
    refine ls_assign (x := (.pointer none)) (by kernel_rfl) (by kernel_rfl) ?_
    refine ls_nil ?_
    refine then_normal ?_
    refine fr_eq (b := ⟨#[x0, x1, undef, undef, (.pointer none), x10, undef, undef, x0, x1, x10, x10, x12, undef, undef, undef, undef, undef, undef, undef, undef, undef, undef, undef, undef, undef, undef, undef, undef, undef, undef, undef], []⟩) (by kernel_rfl) ?_
    refine wp_ret ?_
    refine then_ret ?_
    exact end1 (Tryd.results8) (by kernel_rfl) (by kernel_rfl) HA H _ (.inr rfl)
  · refine wp_skip ?_
    refine then_normal ?_
    refine fr_eq (b := ⟨#[x0, x1, undef, undef, (.pointer none), x10, undef, undef, x0, x1, x10, x10, x12, undef, undef, undef, undef, undef, undef, undef, undef, undef, undef, undef, undef, undef, undef, undef, undef, undef, undef, undef], []⟩) (by kernel_rfl) ?_
    refine wp_seq ?_
    refine lwp_list ?_
    refine ls_move (x := x10) (by kernel_rfl) (by kernel_rfl) ?_
    refine ls_move (x := x0) (by kernel_rfl) (by kernel_rfl) ?_
    refine ls_move (x := x1) (by kernel_rfl) (by kernel_rfl) ?_
    refine ls_move (x := x1) (by kernel_rfl) (by kernel_rfl) ?_
    refine ls_p (d := some 17) (by kernel_rfl) (by kernel_rfl) (p_sub (by kernel_rfl) (by kernel_rfl) H) (fun x17 H => ?_)
    refine ls_p (d := some 18) (by kernel_rfl) (by kernel_rfl) (p_lit (pl := [(0, 1), (1, 1), (2, 1), (3, 7), (10, 7), (17, 1), (18, 1), (19, 1), (20, 1), (21, 512), (533, 1)]) Tryd.zeroValue64 Tryd.underlying64 ⟨(by kernel_rfl), Tryd.sizeOf54, (by kernel_rfl), Tryd.sizeOf3, (by kernel_rfl), Tryd.sizeOf3, (by kernel_rfl), Tryd.sizeOf61, (by kernel_rfl), Tryd.sizeOf61, (by kernel_rfl), Tryd.sizeOf4, (by kernel_rfl), Tryd.sizeOf4, (by kernel_rfl), Tryd.sizeOf3, (by kernel_rfl), Tryd.sizeOf3, (by kernel_rfl), Tryd.sizeOf62, (by kernel_rfl), Tryd.sizeOf26, trivial⟩ (by kernel_rfl) (by kernel_rfl) H) (fun x18 H => ?_)
    refine ls_fr (b := ⟨#[x0, x1, undef, undef, (.pointer none), x10, undef, undef, x0, x1, x10, x10, x12, x10, x0, x1, x1, x17, x18, undef, undef, undef, undef, undef, undef, undef, undef, undef, undef, undef, undef, undef], []⟩) (by kernel_rfl) ?_
    refine ls_d (d := some 19) (by kernel_rfl) (by kernel_rfl) HA (d_box (by kernel_rfl) H) (fun x19 h_1 w_1 H HA_1 => ?_)
    refine ls_assign (x := x19) (by kernel_rfl) (by kernel_rfl) ?_
    refine ls_nil ?_
    refine then_normal ?_
    refine fr_eq (b := ⟨#[x0, x1, undef, undef, (.pointer none), x10, x19, undef, x0, x1, x10, x10, x12, x10, x0, x1, x1, x17, x18, x19, undef, undef, undef, undef, undef, undef, undef, undef, undef, undef, undef, undef], []⟩) (by kernel_rfl) ?_
    refine wp_seq ?_
    refine wp_seq ?_
    refine lwp_list ?_
    refine ls_move (x := (.int .i64 0)) (by kernel_rfl) (by kernel_rfl) ?_
    refine ls_nil ?_
    refine then_normal ?_
    refine fr_eq (b := ⟨#[x0, x1, undef, undef, (.pointer none), x10, x19, undef, x0, x1, x10, x10, x12, x10, x0, x1, x1, x17, x18, x19, (.int .i64 0), undef, undef, undef, undef, undef, undef, undef, undef, undef, undef, undef], []⟩) (by kernel_rfl) ?_
    refine wp_block ?_
    obtain ⟨I, m, H0, HB⟩ := H
    refine wp_loop (fun a w => ∃ (D : Nat → Value) (x20 : Value) (h_2 : Heap), a = ⟨#[x0, x1, undef, undef, (.pointer none), x10, x19, (D 0), x0, x1, x10, x10, x12, x10, x0, x1, x1, x17, x18, x19, x20, (D 1), (D 2), (D 3), (D 4), (D 5), (D 6), (D 7), (D 8), (D 9), (D 10), undef], []⟩ ∧ At w0 w h_2 ∧ I x20 h_2) (fun a w => m (a.tmps.getD 20 undef) w.heap) ?_ ?_
    · exact ⟨(fun i => ([undef, undef, undef, undef, undef, undef, undef, undef, undef, undef, undef]).getD i undef), (.int .i64 0), h_1, by kernel_rfl, HA_1, H0⟩
    · rintro _ w_2 ⟨D, x20, h_2, rfl, HA_2, HI⟩
      have H : screen_New_l1 R x19 (fun x20' h' => I x20' h' ∧ m x20' h' < m x20 h_2) x20 h_2 := HB x20 h_2 HI
      clear HB H0 HI
      unfold screen_New_l1 at H
      refine wp_seq ?_
      refine lwp_list ?_
      refine ls_p (d := some 21) (by kernel_rfl) (by kernel_rfl) (p_sLt (by kernel_rfl) (by kernel_rfl) H) (fun x21 H => ?_)
      refine ls_nil ?_
      refine then_normal ?_
      refine fr_eq (b := ⟨#[x0, x1, undef, undef, (.pointer none), x10, x19, (D 0), x0, x1, x10, x10, x12, x10, x0, x1, x1, x17, x18, x19, x20, x21, (D 2), (D 3), (D 4), (D 5), (D 6), (D 7), (D 8), (D 9), (D 10), undef], []⟩) (by kernel_rfl) ?_
      refine wp_seq ?_
      refine wp_if rfl H (fun H => ?_) (fun H => ?_)
      · refine wp_skip ?_
        refine then_normal ?_
        refine fr_eq (b := ⟨#[x0, x1, undef, undef, (.pointer none), x10, x19, (D 0), x0, x1, x10, x10, x12, x10, x0, x1, x1, x17, x18, x19, x20, x21, (D 2), (D 3), (D 4), (D 5), (D 6), (D 7), (D 8), (D 9), (D 10), undef], []⟩) (by kernel_rfl) ?_
        refine wp_seq ?_
        refine wp_block ?_
        refine wp_seq ?_
        refine lwp_list ?_
        refine ls_move (x := x20) (by kernel_rfl) (by kernel_rfl) ?_
        refine ls_assign (x := x20) (by kernel_rfl) (by kernel_rfl) ?_
        refine ls_nil ?_
        refine then_normal ?_
        refine fr_eq (b := ⟨#[x0, x1, undef, undef, (.pointer none), x10, x19, x20, x0, x1, x10, x10, x12, x10, x0, x1, x1, x17, x18, x19, x20, x21, x20, (D 3), (D 4), (D 5), (D 6), (D 7), (D 8), (D 9), (D 10), undef], []⟩) (by kernel_rfl) ?_
        refine lwp_mx (Nat.testBit 136) (Nat.testBit 0) (Nat.testBit 119) [0, 0, 0, 4, 1, 17, 63, 127] (Nat.testBit 0) (fun h' => h' = h_2) [0, 1, 2, 3, 4, 5, 6, 7] (by kernel_rfl) (by kernel_rfl) (by kernel_rfl) (by kernel_rfl) HA_2 rfl ?_
        intro w_3 HA_3
        refine lm_al (x := x19) (d := some 23) (by kernel_rfl) rfl (by kernel_rfl) (by kernel_rfl) (al_move (by kernel_rfl)) ?_
        refine lm_al (x := x20) (d := some 24) (by kernel_rfl) rfl (by kernel_rfl) (by kernel_rfl) (al_move (by kernel_rfl)) ?_
        refine lm_al (x := x20) (d := some 25) (by kernel_rfl) rfl (by kernel_rfl) (by kernel_rfl) (al_move (by kernel_rfl)) ?_
        refine lm_d (d := some 26) (by kernel_rfl) rfl (by kernel_rfl) (by kernel_rfl) (by kernel_rfl) HA_3 (d_call (by kernel_rfl) (by kernel_rfl) H) (fun x26 h_3 w_4 H HA_4 => ?_)
        refine lm_p (d := some 27) (by kernel_rfl) rfl (by kernel_rfl) (by kernel_rfl) (p_nil (by kernel_rfl) H) (fun x27 H => ?_)
        refine lm_p (d := some 28) (by kernel_rfl) rfl (by kernel_rfl) (by kernel_rfl) (p_off Tryd.underlying64 rfl (fun w => ⟨_, Tryd.sizeOf62 w⟩) rfl (by kernel_rfl) H) (fun x28 H => ?_)
        refine lm_fr (b := ⟨#[x0, x1, undef, undef, (.pointer none), x10, x19, x20, x0, x1, x10, x10, x12, x10, x0, x1, x1, x17, x18, x19, x20, x21, x20, x19, x20, x20, x26, x27, x28, (D 9), (D 10), undef], []⟩) (by kernel_rfl) ?_
        refine lm_p (d := some 29) (by kernel_rfl) rfl (by kernel_rfl) (by kernel_rfl) (p_ixa Tryd.underlying62 Tryd.sizeOf4 (by kernel_rfl) (by kernel_rfl) H) (fun x29 H => ?_)
        refine lm_d (d := none) (by kernel_rfl) rfl (by kernel_rfl) (by kernel_rfl) (by kernel_rfl) HA_4 (d_st Tryd.sizeOf4 (by kernel_rfl) (by kernel_rfl) H) (fun _ h_4 w_5 H HA_5 => ?_)
        refine lm_nil ?_
        refine block_normal ?_
        refine then_normal ?_
        refine fr_eq (b := ⟨#[x0, x1, undef, undef, (.pointer none), x10, x19, x20, x0, x1, x10, x10, x12, x10, x0, x1, x1, x17, x18, x19, x20, x21, x20, x19, x20, x20, x26, x27, x28, x29, (D 10), undef], []⟩) (by kernel_rfl) ?_
        refine lwp_list ?_
        refine ls_p (d := some 30) (by kernel_rfl) (by kernel_rfl) (p_add (by kernel_rfl) (by kernel_rfl) H) (fun x30 H => ?_)
        refine ls_move (x := x30) (by kernel_rfl) (by kernel_rfl) ?_
        refine ls_nil ?_
        exact ⟨⟨(fun i => ([x20, x21, x20, x19, x20, x20, x26, x27, x28, x29, x30]).getD i undef), x30, h_4, by kernel_rfl, HA_5, H.1⟩, loop_lt HA_5.heap HA_2.heap (by kernel_rfl) (by kernel_rfl) H.2⟩
      · refine wp_exit ?_
        refine then_exit ?_
        refine then_exit ?_
        refine block_exit ?_
        refine then_normal ?_
        refine fr_eq (b := ⟨#[x0, x1, undef, undef, (.pointer none), x10, x19, (D 0), x0, x1, x10, x10, x12, x10, x0, x1, x1, x17, x18, x19, x20, x21, (D 2), (D 3), (D 4), (D 5), (D 6), (D 7), (D 8), (D 9), (D 10), undef], []⟩) (by kernel_rfl) ?_
        refine wp_seq ?_
        refine lwp_list ?_
        refine ls_move (x := x19) (by kernel_rfl) (by kernel_rfl) ?_
        refine ls_assign (x := x19) (by kernel_rfl) (by kernel_rfl) ?_
        refine ls_nil ?_
        refine then_normal ?_
        refine fr_eq (b := ⟨#[x0, x1, undef, undef, x19, x10, x19, (D 0), x0, x1, x10, x10, x12, x10, x0, x1, x1, x17, x18, x19, x20, x21, (D 2), (D 3), (D 4), (D 5), (D 6), (D 7), (D 8), (D 9), (D 10), x19], []⟩) (by kernel_rfl) ?_
        refine wp_ret ?_
        exact end1 (Tryd.results8) (by kernel_rfl) (by kernel_rfl) HA_2 H _ (.inr rfl)

end Go.Proofs.YtmhhjpfkipficaaDoor

end

section
/- The shallow reading of one function, and that the function does it. Written by a program. -/
set_option linter.unusedVariables false
namespace Go.Proofs.YtmhhjpfkipficaaDoor
open Go Go.HW

def screen_isStop_S (x0 : Value) (h : Heap) (R : Value → Heap → Prop) : Prop :=
  sGt x0 (.int .i64 0) fun x4 =>
  sAnd x4 (fun k =>
  sRem .i64 x0 (.int .i64 8) fun x7 =>
  sEq x7 (.int .i64 0) fun x8 =>
  k x8) fun x9 =>
  R x9 h
set_option maxRecDepth 100000 in
theorem screen_isStop_runs {x0 : Value} {h : Heap} {R : Value → Heap → Prop} (H : screen_isStop_S x0 h R) : screen_isStop_c x0 h R := by
  unfold screen_isStop_S at H
  refine runs_of (b := ⟨#[x0, undef, undef, undef, undef, undef, undef, undef, undef, undef], []⟩) Tryd.call28 Tryd.func28 rfl (by kernel_rfl) (fun w0 HA => ?_)
  refine wp_seq ?_
  refine lwp_list ?_
  refine ls_assign (x := (.bool false)) (by kernel_rfl) (by kernel_rfl) ?_
  refine ls_nil ?_
  refine then_normal ?_
  refine fr_eq (b := ⟨#[x0, undef, (.bool false), undef, undef, undef, undef, undef, undef, undef], []⟩) (by kernel_rfl) ?_
  refine wp_seq ?_
  refine lwp_list ?_
  refine ls_move (x := x0) (by kernel_rfl) (by kernel_rfl) ?_
  refine ls_p (d := some 4) (by kernel_rfl) (by kernel_rfl) (p_sGt (by kernel_rfl) (by kernel_rfl) H) (fun x4 H => ?_)
  refine ls_move (x := x4) (by kernel_rfl) (by kernel_rfl) ?_
  refine ls_and [(), (), (), ()] (fun K a w => ∃ (D : Nat → Value) (x9 : Value), a = ⟨#[x0, undef, (.bool false), x0, x4, x4, (D 0), (D 1), (D 2), x9], []⟩ ∧ At w0 w h ∧ K x9) H (fun hb H => ?_) (fun hb H => ?_) ?_
  · refine ls_move (x := x0) (by rw [hb]; kernel_rfl) (by kernel_rfl) ?_
    refine ls_p (d := some 7) (by kernel_rfl) (by rw [hb]; kernel_rfl) (p_rem (by kernel_rfl) (by kernel_rfl) H) (fun x7 H => ?_)
    refine ls_p (d := some 8) (by kernel_rfl) (by rw [hb]; kernel_rfl) (p_sEq (by kernel_rfl) (by kernel_rfl) H) (fun x8 H => ?_)
    refine ls_pick_t (x := x8) (by kernel_rfl) (by rw [hb]; kernel_rfl) (by kernel_rfl) ?_
    refine ls_nil ?_
    refine then_normal ?_
    exact ⟨(fun i => ([x0, x7, x8]).getD i undef), x8, by kernel_rfl, HA, H⟩
  · refine ls_skip (d := some 6) (by kernel_rfl) (by rw [hb]; kernel_rfl) ?_
    refine ls_skip (d := some 7) (by kernel_rfl) (by rw [hb]; kernel_rfl) ?_
    refine ls_skip (d := some 8) (by kernel_rfl) (by rw [hb]; kernel_rfl) ?_
    refine ls_pick_f (y := (.bool false)) (by kernel_rfl) (by rw [hb]; kernel_rfl) (by kernel_rfl) ?_
    refine ls_nil ?_
    refine then_normal ?_
    exact ⟨(fun i => ([undef, undef, undef]).getD i undef), (.bool false), by kernel_rfl, HA, H⟩
  · rintro _ w ⟨D, x9, rfl, HA, H⟩
    refine ls_assign (x := x9) (by kernel_rfl) (by kernel_rfl) ?_
    refine ls_nil ?_
    refine then_normal ?_
    refine fr_eq (b := ⟨#[x0, undef, x9, x0, x4, x4, (D 0), (D 1), (D 2), x9], []⟩) (by kernel_rfl) ?_
    refine wp_ret ?_
    exact end1 (Tryd.results28) (by kernel_rfl) (by kernel_rfl) HA H _ (.inr rfl)

end Go.Proofs.YtmhhjpfkipficaaDoor

end

section
/- Screens: new ones, stops, margins, modes, what is saved. -/
set_option linter.unusedSimpArgs false
set_option linter.unusedVariables false
namespace Go.Proofs.YtmhhjpfkipficaaDoor
open Go Go.HW

def newM (w g : Int) (st : List Bool) : Sc := ⟨w, g, 0, 0, false, 0, 0, 0, false, 0, 0, false, 0, 0, 0, false, true, false, 0, g - 1, st⟩
theorem newM_ok {w g : Int} {st : List Bool} (h : 1 ≤ w ∧ w ≤ 512 ∧ 1 ≤ g ∧ g ≤ 512) : OkS (newM w g st) := ⟨⟨h.1, h.2.1⟩, h.2.2, ⟨by simp [newM], by simp [newM]; omega⟩, ⟨by simp [newM], by simp [newM]; omega⟩, by simp [newM]; omega, by simp [newM]⟩
theorem scL_stop {m : Sc} {kg : Nat} {ov : Value} {i : Nat} {b : Bool} : i < m.st.length → (scL m kg ov).set (21 + i) (.bool b) = scL { m with st := m.st.set i b } kg ov := fun hi => by
  unfold scL
  rw [List.set_append_right _ _ (by simp [scH])]
  have : (scH m kg).length = 21 := rfl
  rw [this, Nat.add_sub_cancel_left, List.set_append_left _ _ (by simpa using hi), List.map_set]
  rfl
theorem scL_get {m : Sc} {kg : Nat} {ov : Value} {i : Nat} (hi : i < m.st.length) : (scL m kg ov)[21 + i]? = some (.bool m.st[i]) := by
  unfold scL
  have : (scH m kg).length = 21 := rfl
  rw [List.getElem?_append_right (by omega), this, Nat.add_sub_cancel_left, List.getElem?_append_left (by simpa using hi)]
  simp [hi]
theorem setL_mid : ∀ (vs l1 l2 rest : List Value), l2.length = vs.length → setL (l1 ++ (l2 ++ rest)) l1.length vs = l1 ++ (vs ++ rest)
  | [], l1, l2, rest, h => by have : l2 = [] := List.eq_nil_of_length_eq_zero h; subst this; rfl
  | v :: r, l1, u :: l2, rest, h => by
    rw [setL, List.cons_append, List.set_append_right _ _ (Nat.le_refl _), Nat.sub_self, List.set_cons_zero]
    have := setL_mid r (l1 ++ [v]) l2 rest (by simpa using h)
    rw [List.length_append, List.length_singleton, List.append_assoc, List.append_assoc] at this
    exact this
  | v :: r, l1, [], rest, h => by simp at h

section
variable {h0 h : Heap} {F : List HP} {R : Value → Heap → Prop} {k kg : Nat} {m : Sc} {C : Cel} {off : List (List Ce)} {y : Int}
theorem isStop_spec {x : Int} (H : ∀ b, R (.bool b) h) : screen_isStop_c (.int .i64 x) h R := by
  apply screen_isStop_runs
  unfold screen_isStop_S
  rw [ev_gt, ev_and]
  split
  · simp only [ev_rem (show (8 : Int) ≠ 0 by decide), ev_eq]
    exact H _
  · exact H _
theorem stStop {i : Nat} {b : Bool} {K : Heap → Prop} (z : HW.Sep h0 (Scr k m C off :: F) h) (hi : i < 512) (H : ∀ h', HW.Sep h0 (Scr k { m with st := m.st.set i b } C off :: F) h' → K h') : sSt h (ptr k (21 + i)) (.bool b) K := by
  obtain ⟨kg, ov, rs, e, es, so⟩ := Sopen z
  refine stL so (by rw [sc_len]; omega) trivial (fun h' s' => H h' ?_)
  rw [scL_stop (by omega)] at s'
  exact Sshut (m := { m with st := m.st.set i b }) e (by simp [es]) s'
theorem ev_ixa {b o i n sz : Nat} {K : Value → Prop} (hi : i < n) : sIxA (ptr b o) (.int .i64 (i : Int)) n sz K = K (ptr b (o + i * sz)) :=
  propext ⟨fun ⟨b', o', k', j, e, e2, h1, h2, x⟩ => by cases e; cases e2; simpa using x, fun x => ⟨b, o, .i64, i, rfl, rfl, by omega, by omega, by simpa using x⟩⟩
set_option maxRecDepth 20000 in
theorem New_spec {w g : Int} (hw : i64 w) (hg : i64 g) (H0 : ¬(1 ≤ w ∧ w ≤ 512 ∧ 1 ≤ g ∧ g ≤ 512) → R (.pointer none) h) (H1 : (1 ≤ w ∧ w ≤ 512 ∧ 1 ≤ g ∧ g ≤ 512) → ∀ k st h', HW.Sep h [Scr k (newM w g st) (fun _ _ => ce0) []] h' → R (ptr k 0) h') : screen_New_c (.int .i64 w) (.int .i64 g) h R := by
  apply screen_New_runs
  unfold screen_New_S
  refine new_spec hw hg (fun hn => ?_) (fun hs kg v h1 z s1 => ?_)
  · rw [ev_eqlNil, Option.isNone_none, ev_if, if_pos rfl]
    exact H0 hn
  have H1 := H1 hs
  have e0 : ∀ {K : Value → Prop}, sEqlNil (ptr kg 0) K = K (.bool false) := by intro K; simp only [ptr, ev_eqlNil, Option.isNone_some]
  rw [e0, ev_if, if_neg (by decide), ev_sub, wrap_i64 (by omega) (by omega)]
  refine build_intro (cs := (scL (newM w g (List.replicate 512 false)) kg (.slice none 0 0)).toArray) (fill_k (by kernel_rfl)) ?_
  refine s1.box (c := (scL (newM w g (List.replicate 512 false)) kg (.slice none 0 0)).toArray) rfl (fun k h2 s2 => ?_)
  have s3 := sep_nil (enc := encCV) (sz := 1) s2
  have s4 : HW.Sep h (rowsP [] :: _) h2 := (Sep.shut_all (L := []) s3)
  have s5 := selF (L := [_, _, _, _, _]) s4 [3, 4, 2, 1, 0] rfl (by decide)
  have s6 := Gshut (C := fun _ _ => ce0) z (by
    funext x y
    unfold cell
    split
    · rw [List.getD_eq_getElem?_getD, List.getElem?_replicate]; split <;> rfl
    · rfl) s5
  have s7 := Sshut (m := newM w g (List.replicate 512 false)) (off := []) (rs := []) rfl (List.length_replicate ..) s6.b1
  generalize List.replicate 512 false = L at s7
  refine ⟨fun t h' => ∃ (i : Nat) (st : List Bool), i ≤ 512 ∧ t = .int .i64 i ∧ HW.Sep h [Scr k (newM w g st) (fun _ _ => ce0) []] h', fun t _ => match t with | .int _ i => (512 - i).toNat | _ => 0, ⟨0, L, by omega, rfl, s7⟩, ?_⟩
  rintro _ h3 ⟨i, st, hi, rfl, s3⟩
  simp only []
  unfold screen_New_l1
  rw [ev_lt, ev_if]
  by_cases hlt : (i : Int) < 512
  · rw [if_pos (decide_eq_true hlt)]
    refine isStop_spec (fun b => ?_)
    rw [ev_nil, ev_off, Nat.zero_add, ev_ixa (by omega), Nat.mul_one]
    refine stStop s3 (by omega) (fun h4 s4 => ?_)
    rw [ev_add, wrap_i64 (by omega) (by omega)]
    exact ⟨⟨i + 1, st.set i b, by omega, by rw [Int.natCast_add]; rfl, s4⟩, by simp only; omega⟩
  · rw [if_neg (by simpa using hlt)]
    exact H1 k st h3 s3
end
end Go.Proofs.YtmhhjpfkipficaaDoor

end

section
/- A range over a string. -/
namespace Go.HW
open Go

def sRange (h : Heap) (x : Value) (K : Value → Heap → Prop) : Prop := ∃ s, x = .string s ∧ K (.pointer (some ⟨h.size, 0, none⟩)) (h.push (.stringIter s 0))
def sNextS (h : Heap) (x : Value) (K : Value → Heap → Prop) : Prop := ∃ r s p, x = .pointer (some ⟨r, 0, none⟩) ∧ h[r]? = some (.stringIter s p) ∧ ((¬ p < s.size ∧ K (.tuple #[.bool false]) h) ∨ (p < s.size ∧ ∃ c wd, Utf8.decode s p = (c, wd) ∧ K (.tuple #[.bool true, .int .i64 p, .int .i32 c]) (h.setIfInBounds r (.stringIter s (p + wd)))))
section
variable {P : Program} {ρ : Operand → Value}
variable {dst : Option Tmp} {tp : TypeId} {pos : String} {after : Array Edge} {g : Option (Nat × Bool)}
theorem d_range {h : Heap} {K : Value → Heap → Prop} {X : Operand} {x : Value} {t : TypeId} (ht : P.underlying t = some .string) (hx : ρ X = x) (H : sRange h x K) : Does P ρ ⟨dst, .range t X, tp, pos, after, g⟩ h K := by
  obtain ⟨s, rfl, hk⟩ := H
  intro w hw
  refine .inl ⟨.pointer (some ⟨w.heap.size, 0, none⟩), w.iter s 0, ?_, ?_, ⟨rfl, rfl, rfl⟩⟩
  · simp [execOp, go_sem, hx, run_range_string w t s ht]
  · show K _ (w.heap.push _)
    rw [hw]; exact hk
theorem d_next {h : Heap} {K : Value → Heap → Prop} {X : Operand} {x : Value} (hx : ρ X = x) (H : sNextS h x K) : Does P ρ ⟨dst, .next X true, tp, pos, after, g⟩ h K := by
  obtain ⟨r, s, p, rfl, hr, hk⟩ := H
  intro w hw
  subst hw
  rcases hk with ⟨hp, hk⟩ | ⟨hp, c, wd, hd, hk⟩
  · refine .inl ⟨.tuple #[.bool false], w, ?_, hk, ⟨rfl, rfl, rfl⟩⟩
    have : (Instr.next (.pointer (some ⟨r, 0, none⟩)) true tp).run P w = .ok (.tuple #[.bool false]) w := by
      simp [Instr.next, getObj, Sem.run, hr, hp]
    simp [execOp, go_sem, hx, this]
  · refine .inl ⟨.tuple #[.bool true, .int .i64 p, .int .i32 c], { w with heap := w.heap.setIfInBounds r (.stringIter s (p + wd)) }, ?_, hk, ⟨rfl, rfl, rfl⟩⟩
    have : (Instr.next (.pointer (some ⟨r, 0, none⟩)) true tp).run P w = .ok (.tuple #[.bool true, .int .i64 p, .int .i32 c]) { w with heap := w.heap.setIfInBounds r (.stringIter s (p + wd)) } := by
      simp only [Instr.next, getObj, setObj, Sem.run_bind, Sem.run, hr, Result.andThen, hp, if_true, hd]
      simp [goInt, Sem.run, hr]
    simp [execOp, go_sem, hx, this]
end
/-- A string's iterator. -/
def Itr (b : Nat) (s : ByteArray) (p : Nat) : HP where
  P t h := (∀ i, t i ↔ i = b) ∧ h[b]? = some (.stringIter s p)
  loc := fun ⟨x, q⟩ e => ⟨x, by rw [e b ((x b).2 rfl)]; exact q⟩
  dom := fun ⟨x, q⟩ i hi => by rw [(x i).1 hi]; exact (Array.getElem?_eq_some_iff.1 q).1
section
variable {h0 h : Heap} {F : List HP}
theorem Sep.range {s : ByteArray} {K : Value → Heap → Prop} (z : Sep h0 F h) (H : ∀ b h', Sep h0 (Itr b s 0 :: F) h' → K (.pointer (some ⟨b, 0, none⟩)) h') : sRange h (.string s) K :=
  ⟨s, rfl, H h.size _ (z.add1 ⟨⟨fun i => i = h.size, ⟨fun i => i = h.size, fun _ => False, ⟨fun _ => Iff.rfl, by simp⟩, fun _ h => h, fun _ _ h => h, fun b => by simp⟩, fun b hb => by omega⟩, (Ext.refl h).push⟩)⟩
theorem Sep.nextEnd {s : ByteArray} {b p : Nat} {K : Value → Heap → Prop} (z : Sep h0 (Itr b s p :: F) h) (hp : ¬ p < s.size) (H : K (.tuple #[.bool false]) h) : sNextS h (.pointer (some ⟨b, 0, none⟩)) K :=
  let ⟨_, x, _⟩ := z.head
  ⟨b, s, p, rfl, x.2, .inl ⟨hp, H⟩⟩
theorem Sep.nextGo {s : ByteArray} {b p c wd : Nat} {K : Value → Heap → Prop} (z : Sep h0 (Itr b s p :: F) h) (hp : p < s.size) (hd : Utf8.decode s p = (c, wd)) (H : ∀ h', Sep h0 (Itr b s (p + wd) :: F) h' → K (.tuple #[.bool true, .int .i64 p, .int .i32 c]) h') : sNextS h (.pointer (some ⟨b, 0, none⟩)) K := by
  obtain ⟨_, x, _⟩ := z.head
  refine ⟨b, s, p, rfl, x.2, .inr ⟨hp, c, wd, hd, H _ ?_⟩⟩
  have hb := (Array.getElem?_eq_some_iff.1 x.2).1
  exact z.step (by simp) fun t ht => ⟨⟨t, ⟨ht.1, by rw [Array.getElem?_setIfInBounds_self]; simp [hb]⟩, fun _ => .inl⟩, fun i _ hn => by
    rw [Array.getElem?_setIfInBounds_ne fun e => hn ((ht.1 i).2 e.symm)]⟩
end
end Go.HW

end

section
/- The shallow reading of one function, and that the function does it. Written by a program. -/
set_option linter.unusedVariables false
namespace Go.Proofs.YtmhhjpfkipficaaDoor
open Go Go.HW

def betonylaw24_awake_l1 (R : Value → Heap → Prop) (x5 x8 : Value) (next : Heap → Prop) (h_2 : Heap) : Prop :=
  sNextS h_2 x8 fun x9 h_3 => 
  sTup x9 0 fun x10 =>
  sIf x10 (sTup x9 2 fun x11 =>
  screen_Screen_Put_c x5 x11 h_3 fun x14 h_4 => 
  next h_4) (screen_Screen_Cursor_c x5 h_3 fun x16 h_5 => 
  sBuild #[.int .i64 0, .int .i64 0, .bool false] [(0, 1, (.int .i64 2)), (2, 1, (.bool true))] fun x17 =>
  sEqlAgg x16 x17 [some .i64, some .i64, none] fun x18 =>
  screen_Screen_Put_c x5 (.int .i32 100) h_5 fun x20 h_6 => 
  sAndH x18 h_6 (fun k_1 =>
  screen_Screen_At_c x5 (.int .i64 0) (.int .i64 1) h_6 fun x24 h_10 => 
  sFld x24 0 fun x25 =>
  sEq x25 (.int .i32 100) fun x26 =>
  k_1 x26 h_10) fun x27 h_7 =>
  sAndH x27 h_7 (fun k =>
  screen_Screen_At_c x5 (.int .i64 2) (.int .i64 0) h_7 fun x30 h_9 => 
  sFld x30 0 fun x31 =>
  sEq x31 (.int .i32 99) fun x32 =>
  k x32 h_9) fun x33 h_8 =>
  R x33 h_8)
def betonylaw24_awake_S (h : Heap) (R : Value → Heap → Prop) : Prop :=
  screen_New_c (.int .i64 3) (.int .i64 2) h fun x5 h => 
  sEqlNil x5 fun x7 =>
  sIf x7 (R (.bool false) h) (sRange h (.string ⟨#[97, 98, 99]⟩) fun x8 h_1 => 
  sLoop (S := Unit) (fun nxt s h => betonylaw24_awake_l1 R x5 x8 (fun  h => nxt () h)  h) () h_1)
set_option maxRecDepth 100000 in
theorem betonylaw24_awake_runs {h : Heap} {R : Value → Heap → Prop} (H : betonylaw24_awake_S  h R) : betonylaw24_awake_c  h R := by
  unfold betonylaw24_awake_S at H
  refine runs_of (b := ⟨#[undef, undef, undef, undef, undef, undef, undef, undef, undef, undef, undef, undef, undef, undef, undef, undef, undef, undef, undef, undef, undef, undef, undef, undef, undef, undef, undef, undef, undef, undef, undef, undef, undef, undef], []⟩) Tryd.call12 Tryd.func12 rfl (by kernel_rfl) (fun w0 HA => ?_)
  refine wp_seq ?_
  refine lwp_list ?_
  refine ls_assign (x := (.bool false)) (by kernel_rfl) (by kernel_rfl) ?_
  refine ls_nil ?_
  refine then_normal ?_
  refine fr_eq (b := ⟨#[(.bool false), undef, undef, undef, undef, undef, undef, undef, undef, undef, undef, undef, undef, undef, undef, undef, undef, undef, undef, undef, undef, undef, undef, undef, undef, undef, undef, undef, undef, undef, undef, undef, undef, undef], []⟩) (by kernel_rfl) ?_
  refine wp_seq ?_
  refine lwp_list ?_
  refine ls_d (d := some 5) (by kernel_rfl) (by kernel_rfl) HA (d_call (by kernel_rfl) (by kernel_rfl) H) (fun x5 h w H HA => ?_)
  refine ls_assign (x := x5) (by kernel_rfl) (by kernel_rfl) ?_
  refine ls_nil ?_
  refine then_normal ?_
  refine fr_eq (b := ⟨#[(.bool false), x5, undef, undef, undef, x5, undef, undef, undef, undef, undef, undef, undef, undef, undef, undef, undef, undef, undef, undef, undef, undef, undef, undef, undef, undef, undef, undef, undef, undef, undef, undef, undef, undef], []⟩) (by kernel_rfl) ?_
  refine wp_seq ?_
  refine wp_seq ?_
  refine lwp_list ?_
  refine ls_move (x := x5) (by kernel_rfl) (by kernel_rfl) ?_
  refine ls_p (d := some 7) (by kernel_rfl) (by kernel_rfl) (p_eqlNil Tryd.underlying23 (by kernel_rfl) (by kernel_rfl) H) (fun x7 H => ?_)
  refine ls_nil ?_
  refine then_normal ?_
  refine fr_eq (b := ⟨#[(.bool false), x5, undef, undef, undef, x5, x5, x7, undef, undef, undef, undef, undef, undef, undef, undef, undef, undef, undef, undef, undef, undef, undef, undef, undef, undef, undef, undef, undef, undef, undef, undef, undef, undef], []⟩) (by kernel_rfl) ?_
  refine wp_if rfl H (fun H => ?_) (fun H => ?_)
  · refine wp_seq ?_
    refine lwp_list ?_
    refine ls_assign (x := (.bool false)) (by kernel_rfl) (by kernel_rfl) ?_
    refine ls_nil ?_
    refine then_normal ?_
    refine fr_eq (b := ⟨#[(.bool false), x5, undef, undef, undef, x5, x5, x7, undef, undef, undef, undef, undef, undef, undef, undef, undef, undef, undef, undef, undef, undef, undef, undef, undef, undef, undef, undef, undef, undef, undef, undef, undef, undef], []⟩) (by kernel_rfl) ?_
    refine wp_ret ?_
    refine then_ret ?_
    exact end1 (Tryd.results12) (by kernel_rfl) (by kernel_rfl) HA H _ (.inr rfl)
  · refine wp_skip ?_
    refine then_normal ?_
    refine fr_eq (b := ⟨#[(.bool false), x5, undef, undef, undef, x5, x5, x7, undef, undef, undef, undef, undef, undef, undef, undef, undef, undef, undef, undef, undef, undef, undef, undef, undef, undef, undef, undef, undef, undef, undef, undef, undef, undef], []⟩) (by kernel_rfl) ?_
    refine wp_seq ?_
    refine wp_seq ?_
    refine lwp_list ?_
    refine ls_d (d := some 8) (by kernel_rfl) (by kernel_rfl) HA (d_range Tryd.underlying9 (by kernel_rfl) H) (fun x8 h_1 w_1 H HA_1 => ?_)
    refine ls_nil ?_
    refine then_normal ?_
    refine fr_eq (b := ⟨#[(.bool false), x5, undef, undef, undef, x5, x5, x7, x8, undef, undef, undef, undef, undef, undef, undef, undef, undef, undef, undef, undef, undef, undef, undef, undef, undef, undef, undef, undef, undef, undef, undef, undef, undef], []⟩) (by kernel_rfl) ?_
    refine wp_block ?_
    obtain ⟨I, m, H0, HB⟩ := H
    refine wp_loop (fun a w => ∃ (D : Nat → Value) (h_2 : Heap), a = ⟨#[(.bool false), x5, undef, (D 0), undef, x5, x5, x7, x8, (D 1), (D 2), (D 3), (D 4), (D 5), (D 6), undef, undef, undef, undef, undef, undef, undef, undef, undef, undef, undef, undef, undef, undef, undef, undef, undef, undef, undef], []⟩ ∧ At w0 w h_2 ∧ I () h_2) (fun a w => m () w.heap) ?_ ?_
    · exact ⟨(fun i => ([undef, undef, undef, undef, undef, undef, undef]).getD i undef), h_1, by kernel_rfl, HA_1, H0⟩
    · rintro _ w_2 ⟨D, h_2, rfl, HA_2, HI⟩
      have H : betonylaw24_awake_l1 R x5 x8 (fun  h' => I () h' ∧ m () h' < m () h_2)  h_2 := HB () h_2 HI
      clear HB H0 HI
      unfold betonylaw24_awake_l1 at H
      refine wp_seq ?_
      refine lwp_list ?_
      refine ls_d (d := some 9) (by kernel_rfl) (by kernel_rfl) HA_2 (d_next (by kernel_rfl) H) (fun x9 h_3 w_3 H HA_3 => ?_)
      refine ls_p (d := some 10) (by kernel_rfl) (by kernel_rfl) (p_tup (by kernel_rfl) H) (fun x10 H => ?_)
      refine ls_nil ?_
      refine then_normal ?_
      refine fr_eq (b := ⟨#[(.bool false), x5, undef, (D 0), undef, x5, x5, x7, x8, x9, x10, (D 3), (D 4), (D 5), (D 6), undef, undef, undef, undef, undef, undef, undef, undef, undef, undef, undef, undef, undef, undef, undef, undef, undef, undef, undef], []⟩) (by kernel_rfl) ?_
      refine wp_seq ?_
      refine wp_if rfl H (fun H => ?_) (fun H => ?_)
      · refine wp_skip ?_
        refine then_normal ?_
        refine fr_eq (b := ⟨#[(.bool false), x5, undef, (D 0), undef, x5, x5, x7, x8, x9, x10, (D 3), (D 4), (D 5), (D 6), undef, undef, undef, undef, undef, undef, undef, undef, undef, undef, undef, undef, undef, undef, undef, undef, undef, undef, undef], []⟩) (by kernel_rfl) ?_
        refine wp_block ?_
        refine wp_seq ?_
        refine lwp_list ?_
        refine ls_p (d := some 11) (by kernel_rfl) (by kernel_rfl) (p_tup (by kernel_rfl) H) (fun x11 H => ?_)
        refine ls_assign (x := x11) (by kernel_rfl) (by kernel_rfl) ?_
        refine ls_nil ?_
        refine then_normal ?_
        refine fr_eq (b := ⟨#[(.bool false), x5, undef, x11, undef, x5, x5, x7, x8, x9, x10, x11, (D 4), (D 5), (D 6), undef, undef, undef, undef, undef, undef, undef, undef, undef, undef, undef, undef, undef, undef, undef, undef, undef, undef, undef], []⟩) (by kernel_rfl) ?_
        refine lwp_list ?_
        refine ls_move (x := x5) (by kernel_rfl) (by kernel_rfl) ?_
        refine ls_move (x := x11) (by kernel_rfl) (by kernel_rfl) ?_
        refine ls_d (d := some 14) (by kernel_rfl) (by kernel_rfl) HA_3 (d_call (by kernel_rfl) (by kernel_rfl) H) (fun x14 h_4 w_4 H HA_4 => ?_)
        refine ls_nil ?_
        refine block_normal ?_
        exact ⟨⟨(fun i => ([x11, x9, x10, x11, x5, x11, x14]).getD i undef), h_4, by kernel_rfl, HA_4, H.1⟩, loop_lt HA_4.heap HA_2.heap (by kernel_rfl) (by kernel_rfl) H.2⟩
      · refine wp_exit ?_
        refine then_exit ?_
        refine then_exit ?_
        refine block_exit ?_
        refine then_normal ?_
        refine fr_eq (b := ⟨#[(.bool false), x5, undef, (D 0), undef, x5, x5, x7, x8, x9, x10, (D 3), (D 4), (D 5), (D 6), undef, undef, undef, undef, undef, undef, undef, undef, undef, undef, undef, undef, undef, undef, undef, undef, undef, undef, undef], []⟩) (by kernel_rfl) ?_
        refine wp_seq ?_
        refine lwp_list ?_
        refine ls_move (x := x5) (by kernel_rfl) (by kernel_rfl) ?_
        refine ls_d (d := some 16) (by kernel_rfl) (by kernel_rfl) HA_3 (d_call (by kernel_rfl) (by kernel_rfl) H) (fun x16 h_5 w_5 H HA_5 => ?_)
        refine ls_p (d := some 17) (by kernel_rfl) (by kernel_rfl) (p_lit (pl := [(0, 1), (1, 1), (2, 1)]) Tryd.zeroValue38 Tryd.underlying38 ⟨(by kernel_rfl), Tryd.sizeOf3, (by kernel_rfl), Tryd.sizeOf3, (by kernel_rfl), Tryd.sizeOf4, trivial⟩ (by kernel_rfl) (by kernel_rfl) H) (fun x17 H => ?_)
        refine ls_p (d := some 18) (by kernel_rfl) (by kernel_rfl) (p_eqlAgg (eqT_38) (by kernel_rfl) (by kernel_rfl) H) (fun x18 H => ?_)
        refine ls_assign (x := x18) (by kernel_rfl) (by kernel_rfl) ?_
        refine ls_nil ?_
        refine then_normal ?_
        refine fr_eq (b := ⟨#[(.bool false), x5, undef, (D 0), x18, x5, x5, x7, x8, x9, x10, (D 3), (D 4), (D 5), (D 6), x5, x16, x17, x18, undef, undef, undef, undef, undef, undef, undef, undef, undef, undef, undef, undef, undef, undef, undef], []⟩) (by kernel_rfl) ?_
        refine wp_seq ?_
        refine lwp_list ?_
        refine ls_move (x := x5) (by kernel_rfl) (by kernel_rfl) ?_
        refine ls_d (d := some 20) (by kernel_rfl) (by kernel_rfl) HA_5 (d_call (by kernel_rfl) (by kernel_rfl) H) (fun x20 h_6 w_6 H HA_6 => ?_)
        refine ls_nil ?_
        refine then_normal ?_
        refine fr_eq (b := ⟨#[(.bool false), x5, undef, (D 0), x18, x5, x5, x7, x8, x9, x10, (D 3), (D 4), (D 5), (D 6), x5, x16, x17, x18, x5, x20, undef, undef, undef, undef, undef, undef, undef, undef, undef, undef, undef, undef, undef], []⟩) (by kernel_rfl) ?_
        refine wp_seq ?_
        refine lwp_list ?_
        refine ls_move (x := x18) (by kernel_rfl) (by kernel_rfl) ?_
        refine ls_move (x := x18) (by kernel_rfl) (by kernel_rfl) ?_
        refine ls_andh [(), (), (), (), ()] (fun K a w => ∃ (D_1 : Nat → Value) (x27 : Value) (h_7 : Heap), a = ⟨#[(.bool false), x5, undef, (D 0), x18, x5, x5, x7, x8, x9, x10, (D 3), (D 4), (D 5), (D 6), x5, x16, x17, x18, x5, x20, x18, x18, (D_1 0), (D_1 1), (D_1 2), (D_1 3), x27, undef, undef, undef, undef, undef, undef], []⟩ ∧ At w0 w h_7 ∧ K x27 h_7) H (fun hb_1 H => ?_) (fun hb_1 H => ?_) ?_
        · refine ls_move (x := x5) (by rw [hb_1]; kernel_rfl) (by kernel_rfl) ?_
          refine ls_d (d := some 24) (by kernel_rfl) (by rw [hb_1]; kernel_rfl) HA_6 (d_call (by kernel_rfl) (by kernel_rfl) H) (fun x24 h_10 w_10 H HA_10 => ?_)
          refine ls_p (d := some 25) (by kernel_rfl) (by rw [hb_1]; kernel_rfl) (p_fld Tryd.underlying31 rfl Tryd.isAgg21 rfl (by kernel_rfl) H) (fun x25 H => ?_)
          refine ls_p (d := some 26) (by kernel_rfl) (by rw [hb_1]; kernel_rfl) (p_sEq (by kernel_rfl) (by kernel_rfl) H) (fun x26 H => ?_)
          refine ls_fr (b := ⟨#[(.bool false), x5, undef, (D 0), x18, x5, x5, x7, x8, x9, x10, (D 3), (D 4), (D 5), (D 6), x5, x16, x17, x18, x5, x20, x18, x18, x5, x24, x25, x26, undef, undef, undef, undef, undef, undef, undef], []⟩) (by kernel_rfl) ?_
          refine ls_pick_t (x := x26) (by kernel_rfl) (by rw [hb_1]; kernel_rfl) (by kernel_rfl) ?_
          refine ls_nil ?_
          refine then_normal ?_
          exact ⟨(fun i => ([x5, x24, x25, x26]).getD i undef), x26, h_10, by kernel_rfl, HA_10, H⟩
        · refine ls_skip (d := some 23) (by kernel_rfl) (by rw [hb_1]; kernel_rfl) ?_
          refine ls_skip (d := some 24) (by kernel_rfl) (by rw [hb_1]; kernel_rfl) ?_
          refine ls_skip (d := some 25) (by kernel_rfl) (by rw [hb_1]; kernel_rfl) ?_
          refine ls_skip (d := some 26) (by kernel_rfl) (by rw [hb_1]; kernel_rfl) ?_
          refine ls_fr (b := ⟨#[(.bool false), x5, undef, (D 0), x18, x5, x5, x7, x8, x9, x10, (D 3), (D 4), (D 5), (D 6), x5, x16, x17, x18, x5, x20, x18, x18, undef, undef, undef, undef, undef, undef, undef, undef, undef, undef, undef], []⟩) (by kernel_rfl) ?_
          refine ls_pick_f (y := (.bool false)) (by kernel_rfl) (by rw [hb_1]; kernel_rfl) (by kernel_rfl) ?_
          refine ls_nil ?_
          refine then_normal ?_
          exact ⟨(fun i => ([undef, undef, undef, undef]).getD i undef), (.bool false), h_6, by kernel_rfl, HA_6, H⟩
        · rintro _ w_7 ⟨D_1, x27, h_7, rfl, HA_7, H⟩
          refine ls_move (x := x27) (by kernel_rfl) (by kernel_rfl) ?_
          refine ls_andh [(), (), (), (), ()] (fun K a w => ∃ (D_2 : Nat → Value) (x33 : Value) (h_8 : Heap), a = ⟨#[(.bool false), x5, undef, (D 0), x18, x5, x5, x7, x8, x9, x10, (D 3), (D 4), (D 5), (D 6), x5, x16, x17, x18, x5, x20, x18, x18, (D_1 0), (D_1 1), (D_1 2), (D_1 3), x27, x27, (D_2 0), (D_2 1), (D_2 2), (D_2 3), x33], []⟩ ∧ At w0 w h_8 ∧ K x33 h_8) H (fun hb H => ?_) (fun hb H => ?_) ?_
          · refine ls_move (x := x5) (by rw [hb]; kernel_rfl) (by kernel_rfl) ?_
            refine ls_d (d := some 30) (by kernel_rfl) (by rw [hb]; kernel_rfl) HA_7 (d_call (by kernel_rfl) (by kernel_rfl) H) (fun x30 h_9 w_9 H HA_9 => ?_)
            refine ls_p (d := some 31) (by kernel_rfl) (by rw [hb]; kernel_rfl) (p_fld Tryd.underlying31 rfl Tryd.isAgg21 rfl (by kernel_rfl) H) (fun x31 H => ?_)
            refine ls_p (d := some 32) (by kernel_rfl) (by rw [hb]; kernel_rfl) (p_sEq (by kernel_rfl) (by kernel_rfl) H) (fun x32 H => ?_)
            refine ls_pick_t (x := x32) (by kernel_rfl) (by rw [hb]; kernel_rfl) (by kernel_rfl) ?_
            refine ls_nil ?_
            refine then_normal ?_
            exact ⟨(fun i => ([x5, x30, x31, x32]).getD i undef), x32, h_9, by kernel_rfl, HA_9, H⟩
          · refine ls_skip (d := some 29) (by kernel_rfl) (by rw [hb]; kernel_rfl) ?_
            refine ls_skip (d := some 30) (by kernel_rfl) (by rw [hb]; kernel_rfl) ?_
            refine ls_skip (d := some 31) (by kernel_rfl) (by rw [hb]; kernel_rfl) ?_
            refine ls_skip (d := some 32) (by kernel_rfl) (by rw [hb]; kernel_rfl) ?_
            refine ls_pick_f (y := (.bool false)) (by kernel_rfl) (by rw [hb]; kernel_rfl) (by kernel_rfl) ?_
            refine ls_nil ?_
            refine then_normal ?_
            exact ⟨(fun i => ([undef, undef, undef, undef]).getD i undef), (.bool false), h_7, by kernel_rfl, HA_7, H⟩
          · rintro _ w_8 ⟨D_2, x33, h_8, rfl, HA_8, H⟩
            refine ls_assign (x := x33) (by kernel_rfl) (by kernel_rfl) ?_
            refine ls_nil ?_
            refine then_normal ?_
            refine fr_eq (b := ⟨#[x33, x5, undef, (D 0), x18, x5, x5, x7, x8, x9, x10, (D 3), (D 4), (D 5), (D 6), x5, x16, x17, x18, x5, x20, x18, x18, (D_1 0), (D_1 1), (D_1 2), (D_1 3), x27, x27, (D_2 0), (D_2 1), (D_2 2), (D_2 3), x33], []⟩) (by kernel_rfl) ?_
            refine wp_ret ?_
            exact end1 (Tryd.results12) (by kernel_rfl) (by kernel_rfl) HA_8 H _ (.inr rfl)

end Go.Proofs.YtmhhjpfkipficaaDoor

end

section
/- Screens: plain text; the document's example. -/
set_option linter.unusedSimpArgs false
set_option linter.unusedVariables false
namespace Go.Proofs.YtmhhjpfkipficaaDoor
open Go Go.HW

def ch (k : Int) : Int := 97 + k % 26
theorem wt_ch (k : Int) : wt (ch k) = 1 := by
  have h : ∀ c : Fin 26, wt (97 + (c.val : Int)) = 1 := by decide +kernel
  have := h ⟨(k % 26).toNat, by omega⟩
  simp only at this
  rwa [Int.toNat_of_nonneg (by omega)] at this
theorem wt_two {k : Int} : two (ch k) = false := by unfold two; rw [wt_ch]; rfl
theorem two_0 : two 0 = false := by unfold two; rw [wt_0]; rfl
/-- Rows and columns in order. -/
theorem lex {a r s x y : Int} (hx : 0 ≤ x ∧ x < a) (hy : 0 ≤ y ∧ y < a) : r * a + x < s * a + y ↔ r < s ∨ r = s ∧ x < y := by
  rcases Int.lt_trichotomy r s with h | h | h
  · have := Int.mul_le_mul_of_nonneg_right (show r + 1 ≤ s by omega) (show 0 ≤ a by omega)
    rw [Int.add_mul, Int.one_mul] at this
    exact ⟨fun _ => .inl h, fun _ => by omega⟩
  · subst h; exact ⟨fun _ => .inr ⟨rfl, by omega⟩, fun _ => by omega⟩
  · have := Int.mul_le_mul_of_nonneg_right (show s + 1 ≤ r by omega) (show 0 ≤ a by omega)
    rw [Int.add_mul, Int.one_mul] at this
    exact ⟨fun _ => by omega, fun _ => by omega⟩
theorem lexE {a r s x y : Int} (hx : 0 ≤ x ∧ x < a) (hy : 0 ≤ y ∧ y < a) : r * a + x = s * a + y ↔ r = s ∧ x = y := by
  have h1 := lex (r := r) (s := s) hx hy
  have h2 := lex (r := s) (s := r) hy hx
  constructor
  · intro h
    have a1 : ¬(r < s ∨ r = s ∧ x < y) := fun z => by have := h1.2 z; omega
    have a2 : ¬(s < r ∨ s = r ∧ y < x) := fun z => by have := h2.2 z; omega
    omega
  · rintro ⟨rfl, rfl⟩; rfl
/-- What stands there behind so many runes. -/
structure Cells (a b : Int) (i : Nat) (C : Cel) (off : List (List Ce)) : Prop where
  cells : ∀ x y, inG a b x y = true → (C x y).r = if (y + off.length) * a + x < i then ch ((y + off.length) * a + x) else 0
  rows : ∀ (j : Nat) row, off[j]? = some row → row.length = a.toNat ∧ ∀ x : Nat, (x : Int) < a → (row.getD x ce0).r = ch (j * a + x)
structure Modes (a b : Int) (m : Sc) : Prop where
  ok : OkS m
  w : m.w = a
  g : m.g = b
  top : m.top = 0
  bot : m.bot = b - 1
  wrap : m.wrap = true
  ins : m.ins = false
structure Txt (a b : Int) (i : Nat) (m : Sc) (C : Cel) (off : List (List Ce)) : Prop where
  md : Modes a b m
  cl : Cells a b i C off
  ex : ∃ Q : Int, 0 ≤ Q ∧ (m.late = true → (i : Int) = Q * a + a) ∧ (m.late = false → (i : Int) = Q * a + m.x ∧ (m.x = 0 → i = 0)) ∧ (off.length : Int) = mxI 0 (Q + 1 - b) ∧ m.y = Q - mxI 0 (Q + 1 - b)
theorem text_wrap {a b : Int} {i : Nat} {m : Sc} {C : Cel} {off : List (List Ce)} (t : Txt a b i m C off) :
    Modes a b (putM1 m) ∧ Cells a b i (putC1 m C) (putO1 m C off) ∧ ∃ Q : Int, 0 ≤ Q ∧ (i : Int) = Q * a + (putM1 m).x ∧ ((putO1 m C off).length : Int) = mxI 0 (Q + 1 - b) ∧ (putM1 m).y = Q - mxI 0 (Q + 1 - b) := by
  obtain ⟨md, cl, Q, q0, q1, q2, q3, q4⟩ := t
  unfold putM1 putC1 putO1
  have o := md.ok
  have ow := o.w
  have og := o.g
  have oy := o.y
  have ea := md.w
  have eb := md.g
  have et := md.top
  have ebo := md.bot
  cases hl : m.late with
  | false =>
    rw [Bool.false_and, if_neg (by decide), if_neg (by decide), if_neg (by decide)]
    exact ⟨md, cl, Q, q0, (q2 hl).1, q3, q4⟩
  | true =>
    rw [md.wrap, Bool.true_and, if_pos rfl, if_pos rfl, if_pos rfl]
    have q1 := q1 hl
    unfold lineC lineO
    by_cases hy : m.y = m.bot
    · rw [if_pos hy, if_pos hy]
      have hm : wrapM m = { m with late := false, x := 0 } := by unfold wrapM lineM; rw [if_pos hy]
      have hu : upN m 1 = 1 := by unfold upN mnI; rw [if_neg (by omega)]
      unfold upC upO
      rw [hu, if_neg (by decide), if_pos et, hm]
      have hr : (List.range (1 : Int).toNat).map (fun (y : Nat) => rowL C m.w y) = [rowL C m.w 0] := rfl
      rw [hr]
      have hQ : Q = b - 1 + off.length := by omega
      refine ⟨⟨⟨ow, og, ⟨by simp, by simp; omega⟩, oy, o.t, by simp⟩, md.w, md.g, md.top, md.bot, md.wrap, md.ins⟩, ⟨fun x y hin => ?_, fun j row hj => ?_⟩, Q + 1, by omega, by simp only; rw [Int.add_mul]; omega, ?_, ?_⟩
      · have h2 := inG_iff.1 hin
        rw [List.length_append, List.length_singleton]
        unfold upF
        rw [ea, eb, if_pos ⟨hin, by omega⟩]
        have e1 : y + ((off.length + 1 : Nat) : Int) = (y + 1) + off.length := by omega
        rw [e1]
        by_cases hy2 : y + 1 ≤ m.bot
        · rw [if_pos hy2]
          exact cl.cells x (y + 1) (inG_iff.2 ⟨h2.1, by omega⟩)
        · rw [if_neg hy2, if_neg]
          · rfl
          · have : y + 1 + (off.length : Int) = Q + 1 := by omega
            rw [this, q1, Int.add_mul]
            omega
      · by_cases hjl : j < off.length
        · rw [List.getElem?_append_left hjl] at hj
          exact cl.rows j row hj
        · have hj1 := (List.getElem?_eq_some_iff.1 hj).1
          rw [List.length_append, List.length_singleton] at hj1
          have : j = off.length := by omega
          subst this
          rw [List.getElem?_append_right (Nat.le_refl _), Nat.sub_self] at hj
          simp only [List.getElem?_cons_zero, Option.some.injEq] at hj
          subst hj
          refine ⟨by rw [rowL_len, ea], fun x hx => ?_⟩
          rw [List.getD_eq_getElem?_getD, rowL_get (by omega)]
          simp only [Option.getD_some]
          rw [cl.cells x 0 (inG_iff.2 (by omega)), Int.zero_add, if_pos]
          have := (lex (a := a) (r := off.length) (s := Q + 1) (x := x) (y := 0) (by omega) (by omega)).2 (.inl (by omega))
          rw [Int.add_mul] at this
          omega
      · rw [List.length_append, List.length_singleton]
        have : (off.length : Int) = mxI 0 (Q + 1 - b) := q3
        unfold mxI at this ⊢
        split at this <;> split <;> omega
      · simp only
        unfold mxI at q4 ⊢
        split at q4 <;> split <;> omega
    · rw [if_neg hy, if_neg hy]
      have hs : mxI 0 (Q + 1 - b) = 0 := by
        unfold mxI at q4 ⊢
        split at q4
        · omega
        · rw [if_neg (by assumption)]
      have hm : wrapM m = { m with late := false, y := m.y + 1, x := 0 } := by unfold wrapM lineM; rw [if_neg hy, if_pos (by omega)]
      rw [hm]
      refine ⟨⟨⟨ow, og, ⟨by simp, by simp; omega⟩, ⟨by simp; omega, by simp; omega⟩, o.t, by simp⟩, md.w, md.g, md.top, md.bot, md.wrap, md.ins⟩, cl, Q + 1, by omega, by simp only; rw [Int.add_mul]; omega, ?_, ?_⟩
      · rw [q3, hs]; unfold mxI; rw [if_neg (by omega)]
      · simp only; unfold mxI; rw [if_neg (by omega)]; omega
theorem text_put {a b : Int} {i : Nat} {m : Sc} {C : Cel} {off : List (List Ce)} (md : Modes a b m) (cl : Cells a b i C off) {Q : Int} (q0 : 0 ≤ Q) (qi : (i : Int) = Q * a + m.x) (qs : (off.length : Int) = mxI 0 (Q + 1 - b)) (qy : m.y = Q - mxI 0 (Q + 1 - b)) (ho : ∀ x y, ¬ inG a b x y = true → C x y = ce0) : Txt a b (i + 1) (stepM m (ch i)) (putC m C (ch i)) off := by
  have o := md.ok
  have ow := o.w
  have ox := o.x
  have oy := o.y
  have ea := md.w
  have eb := md.g
  have w1 := wt_ch i
  have hc : ∀ x y, two (C x y).r = false ∧ (C x y).r ≠ -1 := fun x y => by
    by_cases hin : inG a b x y = true
    · rw [cl.cells x y hin]
      split
      · exact ⟨wt_two, by unfold ch; omega⟩
      · exact ⟨two_0, by decide⟩
    · rw [ho x y hin]; exact ⟨two_0, by decide⟩
  have P : ∀ x y, (putC m C (ch i) x y).r = if x = m.x ∧ y = m.y then ch i else (C x y).r := fun x y => by
    rw [put_at o.y (by rw [w1]; omega) (.inl w1) (by rw [ea, eb]; exact ho)]
    by_cases h1 : y = m.y
    · rw [if_pos h1]
      by_cases h2 : x = m.x
      · rw [if_pos h2, if_pos ⟨h2, h1⟩]; rfl
      · rw [if_neg h2, if_neg (by omega), if_neg (fun z => by rw [(hc x y).1] at z; exact absurd z.2.2 (by decide)), if_neg (fun z => (hc x y).2 z.2), if_neg (fun z => h2 z.1)]
    · rw [if_neg h1, if_neg (fun z => h1 z.2)]
  have hyQ : m.y + off.length = Q := by omega
  have md' : Modes a b (stepM m (ch i)) := by
    unfold stepM
    rw [w1]
    split
    · exact ⟨⟨ow, o.g, ⟨by simp only; omega, by simp only; omega⟩, oy, o.t, fun _ => by simp only; omega⟩, md.w, md.g, md.top, md.bot, md.wrap, md.ins⟩
    · exact ⟨⟨ow, o.g, ⟨by simp only; omega, by simp only; omega⟩, oy, o.t, by simp⟩, md.w, md.g, md.top, md.bot, md.wrap, md.ins⟩
  refine ⟨md', ⟨fun x y hin => ?_, cl.rows⟩, Q, q0, ?_⟩
  · have h2 := inG_iff.1 hin
    rw [P]
    have L := lexE (a := a) (r := y + off.length) (s := Q) (x := x) (y := m.x) (by omega) (by omega)
    rw [← qi] at L
    have cc := cl.cells x y hin
    generalize hk : (y + (off.length : Int)) * a + x = k at L cc ⊢
    by_cases h3 : x = m.x ∧ y = m.y
    · rw [if_pos h3]
      have : k = i := L.2 ⟨by omega, h3.1⟩
      rw [this, if_pos (by omega)]
    · rw [if_neg h3, cc]
      have hne : k ≠ i := fun e => h3 (by have := L.1 e; omega)
      by_cases h4 : k < i
      · rw [if_pos h4, if_pos (by omega)]
      · rw [if_neg h4, if_neg (by omega)]
  · unfold stepM
    rw [w1]
    by_cases he : m.x + 1 = m.w
    · rw [if_pos he]
      refine ⟨fun _ => by rw [← ea]; rw [← ea] at qi; omega, fun h => ?_, qs, qy⟩
      rw [show m.wrap = true from md.wrap] at h; cases h
    · rw [if_neg he]
      refine ⟨fun h => (by cases h), fun _ => ⟨by simp only; omega, fun h => ?_⟩, qs, qy⟩
      simp only at h; omega
section
variable {h0 h : Heap} {F : List HP} {R : Value → Heap → Prop} {k kg : Nat} {m : Sc} {C : Cel} {off : List (List Ce)} {a b : Int} {i : Nat}
theorem text_new {st : List Bool} (h : 1 ≤ a ∧ a ≤ 512 ∧ 1 ≤ b ∧ b ≤ 512) : Txt a b 0 (newM a b st) (fun _ _ => ce0) [] :=
  ⟨⟨newM_ok h, rfl, rfl, rfl, rfl, rfl, rfl⟩, ⟨fun x y hin => by
    have h2 := inG_iff.1 hin
    have := Int.mul_nonneg (show 0 ≤ y by omega) (show 0 ≤ a by omega)
    rw [if_neg]
    · rfl
    · simp only [List.length_nil]; simp only [Int.natCast_zero, Int.add_zero] at *; omega, fun j row hj => by simp at hj⟩, 0, by omega, fun h => (by cases h), fun _ => ⟨by simp [newM], fun _ => rfl⟩, by simp only [List.length_nil]; unfold mxI; rw [if_neg (by omega)]; rfl, by unfold mxI; rw [if_neg (by omega)]; rfl⟩
theorem text_step (hG : G h0) (t : Txt a b i m C off) (hb : off.length ≤ 900000) (z : HW.Sep h0 (Scr k m C off :: F) h) (H : ∀ m' C' off' h', Txt a b (i + 1) m' C' off' → HW.Sep h0 (Scr k m' C' off' :: F) h' → R unit h') : screen_Screen_Put_c (ptr k 0) (.int .i32 (ch i)) h R := by
  refine Put_plain hG z t.md.ok hb t.md.ins (wt_ch i) (fun h' s' => ?_)
  obtain ⟨md, cl, Q, q0, q1, q2, q3⟩ := text_wrap t
  refine H _ _ _ h' (text_put md cl q0 q1 q2 q3 (fun x y hn => ?_)) s'
  have ho := fun x y => Sout z (x := x) (y := y)
  rw [t.md.w, t.md.g] at ho
  unfold putC1
  split
  · unfold lineC
    split
    · unfold upC
      split
      · exact ho x y hn
      · unfold upF
        rw [t.md.w, t.md.g, if_neg (fun h => hn h.1)]
        exact ho x y hn
    · exact ho x y hn
  · exact ho x y hn
end
end Go.Proofs.YtmhhjpfkipficaaDoor

end

section
/- Screens: the document's example; moves; plain text. -/
set_option linter.unusedSimpArgs false
set_option linter.unusedVariables false
namespace Go.Proofs.YtmhhjpfkipficaaDoor
open Go Go.HW

def abc : ByteArray := ⟨#[97, 98, 99]⟩
def itrM (b : Nat) (h : Heap) : Nat := match h[b]? with | some (.stringIter s p) => s.size - p | _ => 0
theorem abc_dec : ∀ i, i < 3 → Utf8.decode abc i = (97 + i, 1)
  | 0, _ => by kernel_rfl
  | 1, _ => by kernel_rfl
  | 2, _ => by kernel_rfl
  | i + 3, h => by omega
section
variable {h0 h : Heap} {F : List HP} {R : Value → Heap → Prop} {k kg : Nat} {m : Sc} {C : Cel} {off : List (List Ce)} {a b : Int} {i : Nat}
theorem itr_at {r p : Nat} {s : ByteArray} (z : HW.Sep h0 (Itr r s p :: F) h) : itrM r h = s.size - p := by
  obtain ⟨_, x, _⟩ := z.head
  unfold itrM; rw [x.2]
theorem text_off (t : Txt a b i m C off) : off.length ≤ i + 1 := by
  obtain ⟨md, cl, Q, q0, q1, q2, q3, q4⟩ := t
  have ow := md.ok.w
  rw [md.w] at ow
  have og := md.ok.g
  rw [md.g] at og
  have hx := md.ok.x
  have : Q * 1 ≤ Q * a := Int.mul_le_mul_of_nonneg_left ow.1 q0
  have hi : Q ≤ i := by
    cases hl : m.late with
    | true => have := q1 hl; omega
    | false => have := (q2 hl).1; omega
  unfold mxI at q3
  split at q3 <;> omega
def ks3 : List (Option IntKind) := [some .i64, some .i64, none]
def ceq (x y : Int) (l : Bool) (x' y' : Int) (l' : Bool) : Bool := eqVs (curA x y l).toList (curA x' y' l').toList
theorem ceq_eq {x y x' y' : Int} {l l' : Bool} : ceq x y l x' y' l' = (x == x' && (y == y' && (l == l'))) := by simp [ceq, curA, eqVs, eqV]
theorem ok_cur {x y : Int} {l : Bool} : okC [some .i64, some .i64, none] (curA x y l).toList := by simp [curA, okC]
theorem eq_cur {x y x' y' : Int} {l l' : Bool} {K : Value → Prop} : sEqlAgg (.agg (curA x y l)) (.agg (curA x' y' l')) [some .i64, some .i64, none] K = K (.bool (ceq x y l x' y' l')) := ev_eqlAgg ok_cur ok_cur
theorem ne_cur {x y x' y' : Int} {l l' : Bool} {K : Value → Prop} : sNeqAgg (.agg (curA x y l)) (.agg (curA x' y' l')) [some .i64, some .i64, none] K = K (.bool (!(ceq x y l x' y' l'))) := ev_neqAgg ok_cur ok_cur
theorem At_fld {K : Value → Prop} {c : Ce} : sFld (.agg c.a) 0 K = K (.int .i32 c.r) := by rw [ev_fld]; rfl
theorem awake_spec (hG : G h) (H : ∀ h', Ext h h' → R (.bool true) h') : betonylaw24_awake_c h R := by
  apply betonylaw24_awake_runs
  unfold betonylaw24_awake_S
  refine New_spec (by unfold i64; omega) (by unfold i64; omega) (fun hn => (hn (by omega)).elim) (fun _ k st h1 s1 => ?_)
  have e0 : ∀ {K : Value → Prop}, sEqlNil (ptr k 0) K = K (.bool false) := by intro K; simp only [ptr, ev_eqlNil, Option.isNone_some]
  rw [e0, ev_if, if_neg (by decide)]
  refine s1.range (s := abc) (fun rb h2 s2 => ?_)
  refine ⟨fun _ h' => ∃ (i : Nat) (m : Sc) (C : Cel) (off : List (List Ce)), i ≤ 3 ∧ Txt 3 2 i m C off ∧ HW.Sep h (Itr rb abc i :: Scr k m C off :: []) h', fun _ h' => itrM rb h', ⟨0, _, _, _, by omega, text_new (by omega), s2⟩, ?_⟩
  rintro _ h3 ⟨i, m, C, off, hi, t, s3⟩
  unfold betonylaw24_awake_l1
  by_cases hl : i < 3
  · refine s3.nextGo hl (abc_dec i hl) (fun h4 s4 => ?_)
    simp only [ev_tup, List.getElem?_toArray, List.getElem?_cons_succ, List.getElem?_cons_zero, ev_if, if_true]
    have e : ((97 + i : Nat) : Int) = ch i := by unfold ch; omega
    rw [e]
    have to := text_off t
    refine text_step hG t (by omega) s4.b1 (fun m' C' off' h5 t5 s5 => ⟨⟨i + 1, m', C', off', by omega, t5, s5.b1⟩, ?_⟩)
    rw [itr_at s3, itr_at s5.b1]
    have : abc.size = 3 := rfl
    omega
  · have hi3 : i = 3 := by omega
    subst hi3
    refine s3.nextEnd (by decide) ?_
    simp only [ev_tup, List.getElem?_toArray, List.getElem?_cons_zero, ev_if]
    rw [if_neg (by decide)]
    have s4 := s3.tail
    have to := text_off t
    refine Cursor_spec s4 (fun h5 e5 => ?_)
    refine build_intro (cs := curA 2 0 true) ⟨rfl, Nat.le_of_ble_eq_true rfl, rfl, Nat.le_of_ble_eq_true rfl, rfl⟩ ?_
    rw [eq_cur]
    have hcur : ceq m.x m.y m.late 2 0 true = true := by
      rw [ceq_eq]
      obtain ⟨md, cl, Q, q0, q1, q2, q3, q4⟩ := t
      have hx := md.ok.x
      have hlx := md.ok.late
      have ew := md.w
      cases hl : m.late with
      | true =>
        have := q1 hl
        have := hlx hl
        have hQ : Q = 0 := by omega
        subst hQ
        unfold mxI at q4
        simp; split at q4 <;> omega
      | false =>
        have := q2 hl
        omega
    rw [hcur]
    have s5 := s4.ext' e5
    have e100 : (100 : Int) = ch (3 : Nat) := rfl
    rw [e100]
    refine text_step hG t (by omega) s5 (fun m' C' off' h6 t6 s6 => ?_)
    have ho6 : (off'.length : Int) = 0 := by
      obtain ⟨md, cl, Q, q0, q1, q2, q3, q4⟩ := t6
      have hx := md.ok.x
      have hlx := md.ok.late
      have ew := md.w
      have hQ : Q ≤ 1 := by
        cases hl : m'.late with
        | true => have := q1 hl; omega
        | false => have := (q2 hl).1; omega
      rw [q3]; unfold mxI; rw [if_neg (by omega)]
    have c1 := t6.cl.cells 0 1 (by decide)
    have c2 := t6.cl.cells 2 0 (by decide)
    rw [ho6] at c1 c2
    refine and_ext (y := true) (fun _ K' HK => ?_) (fun h7 e7 => ?_)
    · refine At_spec (by unfold i64; omega) (by unfold i64; omega) s6 (fun h7 e7 => ?_)
      rw [At_fld, ev_eq, c1]
      exact HK h7 e7
    refine and_ext (y := true) (fun _ K' HK => ?_) (fun h8 e8 => ?_)
    · refine At_spec (by unfold i64; omega) (by unfold i64; omega) (s6.ext' e7) (fun h8 e8 => ?_)
      rw [At_fld, ev_eq, c2]
      exact HK h8 e8
    exact H h8 ((s6.ext.trans e7).trans e8)
theorem sz16 {w : Int} (hw : 0 ≤ w ∧ w < 65536) {K : Value → Prop} {q : IntKind} : sConv .i64 (.int q w) (fun x => sRem .i64 x (.int .i64 16) fun y => sAdd .i64 (.int .i64 1) y K) = K (.int .i64 (1 + w % 16)) := by
  rw [ev_conv, wrap_i64 (by omega) (by omega), ev_rem (by decide), ev_add, Int.tmod_eq_emod_of_nonneg hw.1, wrap_i64 (by omega) (by omega)]
end
end Go.Proofs.YtmhhjpfkipficaaDoor

end

section
/- What the condition gives: the tables of widths. -/
set_option linter.unusedSimpArgs false
namespace Go.Proofs.YtmhhjpfkipficaaDoor
open Go Go.HW

def sR : Nat → Shape
  | 0 => .nil
  | n + 1 => .cons (.agg (.cons (.int .i32) (.cons (.int .i32) .nil))) (sR n)
theorem g_of {w : World} (hL : laidMetH Tryd.prog [("betony/wide.marks", Rows.laid_betony_wide_marks), ("betony/wide.wides", Rows.laid_betony_wide_wides)] w) : G w.heap := by
  have x := laid_cells (s := sR 9) (name := "betony/wide.marks") (g := 0) (t := 94) (d := Rows.laid_betony_wide_marks) hL (by kernel_rfl) rfl (by kernel_rfl) (by kernel_rfl) (by kernel_rfl) rfl
  have y := laid_cells (s := sR 14) (name := "betony/wide.wides") (g := 1) (t := 95) (d := Rows.laid_betony_wide_wides) hL (by kernel_rfl) rfl (by kernel_rfl) (by kernel_rfl) (by kernel_rfl) rfl
  refine ⟨⟨x.1, fun i v hv => x.2 i v ?_⟩, ⟨?_, fun i v hv => y.2 i v ?_⟩⟩
  · rw [show flatD Rows.laid_betony_wide_marks = marks.flatMap encR from rfl]; exact hv
  · have := y.2 0 (.int .i32 4352) rfl
    unfold Heap.at at this
    split at this
    · rename_i e; exact (Array.getElem?_eq_some_iff.1 e).1
    · cases this
  · rw [show flatD Rows.laid_betony_wide_wides = wides.flatMap encR from rfl]; exact hv
end Go.Proofs.YtmhhjpfkipficaaDoor

end
