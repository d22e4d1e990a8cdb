/- The shallow reading of one function, and that the function does it. Written by a program. -/
import Derived.Test.YtecoejjpdogklaaFnC
set_option linter.unusedVariables false
namespace Go.Proofs.Ytecoejjpdogklaa
open Go Go.HW

def patience_Wait_Come_S (x0 x1 : Value) (h : Heap) (R : Value → Heap → Prop) : Prop :=
  sNil x0 fun x5 =>
  sOff x5 5 fun x6 =>
  sLd h x6 fun x7 =>
  sOr x7 (fun k_1 =>
  sLt x1 (.int .i64 1) fun x10 =>
  k_1 x10) fun x11 =>
  sOr x11 (fun k =>
  sGt x1 (.int .i64 1048576) fun x14 =>
  k x14) fun x15 =>
  sIf x15 (R unit h) (sNil x0 fun x18 =>
  sOff x18 3 fun x19 =>
  sLd h x19 fun x20 =>
  sAdd .i64 x20 x1 fun x22 =>
  sMin x22 (.int .i64 1048576) fun x23 =>
  sNil x0 fun x24 =>
  sOff x24 3 fun x25 =>
  sSt h x25 x23 fun h => 
  sNil x0 fun x27 =>
  sOff x27 4 fun x28 =>
  sSt h x28 (.int .i64 0) fun h_1 => 
  patience_Wait_look_c x0 h_1 fun x30 h_2 => 
  R unit h_2)
set_option maxRecDepth 100000 in
theorem patience_Wait_Come_runs {x0 x1 : Value} {h : Heap} {R : Value → Heap → Prop} (H : patience_Wait_Come_S x0 x1 h R) : patience_Wait_Come_c x0 x1 h R := by
  unfold patience_Wait_Come_S at H
  refine runs_of (b := ⟨#[x0, x1, undef, undef, undef, undef, undef, undef, undef, undef, undef, undef, undef, undef, undef, undef, undef, undef, undef, undef, undef, undef, undef, undef, undef, undef, undef, undef, undef, undef, undef], []⟩) Try.call19 Try.func19 rfl (by kernel_rfl) (fun w0 HA => ?_)
  refine wp_seq ?_
  refine wp_seq ?_
  refine lwp_list ?_
  refine ls_move (x := x0) (by kernel_rfl) (by kernel_rfl) ?_
  refine ls_p (d := some 5) (by kernel_rfl) (by kernel_rfl) (p_nil (by kernel_rfl) H) (fun x5 H => ?_)
  refine ls_p (d := some 6) (by kernel_rfl) (by kernel_rfl) (p_off Try.underlying82 rfl (fun w => ⟨_, Try.sizeOf4 w⟩) rfl (by kernel_rfl) H) (fun x6 H => ?_)
  refine ls_y (d := some 7) (by kernel_rfl) (by kernel_rfl) HA (y_ld Try.isAgg4 (by kernel_rfl) H) (fun x7 H => ?_)
  refine ls_move (x := x7) (by kernel_rfl) (by kernel_rfl) ?_
  refine ls_or [(), (), ()] (fun K a w => ∃ (D : Nat → Value) (x11 : Value), a = ⟨#[x0, x1, undef, undef, x0, x5, x6, x7, x7, (D 0), (D 1), x11, undef, undef, undef, undef, undef, undef, undef, undef, undef, undef, undef, undef, undef, undef, undef, undef, undef, undef, undef], []⟩ ∧ At w0 w h ∧ K x11) H (fun hb_1 H => ?_) (fun hb_1 H => ?_) ?_
  · refine ls_move (x := x1) (by rw [hb_1]; kernel_rfl) (by kernel_rfl) ?_
    refine ls_fr (b := ⟨#[x0, x1, undef, undef, x0, x5, x6, x7, x7, x1, undef, undef, undef, undef, undef, undef, undef, undef, undef, undef, undef, undef, undef, undef, undef, undef, undef, undef, undef, undef, undef], []⟩) (by kernel_rfl) ?_
    refine ls_p (d := some 10) (by kernel_rfl) (by rw [hb_1]; kernel_rfl) (p_sLt (by kernel_rfl) (by kernel_rfl) H) (fun x10 H => ?_)
    refine ls_pick_f (y := x10) (by kernel_rfl) (by rw [hb_1]; kernel_rfl) (by kernel_rfl) ?_
    refine ls_nil ?_
    refine then_normal ?_
    exact ⟨(fun i => ([x1, x10]).getD i undef), x10, by kernel_rfl, HA, H⟩
  · refine ls_skip (d := some 9) (by kernel_rfl) (by rw [hb_1]; kernel_rfl) ?_
    refine ls_fr (b := ⟨#[x0, x1, undef, undef, x0, x5, x6, x7, x7, undef, undef, undef, undef, undef, undef, undef, undef, undef, undef, undef, undef, undef, undef, undef, undef, undef, undef, undef, undef, undef, undef], []⟩) (by kernel_rfl) ?_
    refine ls_skip (d := some 10) (by kernel_rfl) (by rw [hb_1]; kernel_rfl) ?_
    refine ls_pick_t (x := (.bool true)) (by kernel_rfl) (by rw [hb_1]; kernel_rfl) (by kernel_rfl) ?_
    refine ls_nil ?_
    refine then_normal ?_
    exact ⟨(fun i => ([undef, undef]).getD i undef), (.bool true), by kernel_rfl, HA, H⟩
  · rintro _ w ⟨D, x11, rfl, HA, H⟩
    refine ls_move (x := x11) (by kernel_rfl) (by kernel_rfl) ?_
    refine ls_or [(), (), ()] (fun K a w => ∃ (D_1 : Nat → Value) (x15 : Value), a = ⟨#[x0, x1, undef, undef, x0, x5, x6, x7, x7, (D 0), (D 1), x11, x11, (D_1 0), (D_1 1), x15, undef, undef, undef, undef, undef, undef, undef, undef, undef, undef, undef, undef, undef, undef, undef], []⟩ ∧ At w0 w h ∧ K x15) H (fun hb H => ?_) (fun hb H => ?_) ?_
    · refine ls_move (x := x1) (by rw [hb]; kernel_rfl) (by kernel_rfl) ?_
      refine ls_p (d := some 14) (by kernel_rfl) (by rw [hb]; kernel_rfl) (p_sGt (by kernel_rfl) (by kernel_rfl) H) (fun x14 H => ?_)
      refine ls_pick_f (y := x14) (by kernel_rfl) (by rw [hb]; kernel_rfl) (by kernel_rfl) ?_
      refine ls_nil ?_
      refine then_normal ?_
      exact ⟨(fun i => ([x1, x14]).getD i undef), x14, by kernel_rfl, HA, H⟩
    · refine ls_skip (d := some 13) (by kernel_rfl) (by rw [hb]; kernel_rfl) ?_
      refine ls_skip (d := some 14) (by kernel_rfl) (by rw [hb]; kernel_rfl) ?_
      refine ls_pick_t (x := (.bool true)) (by kernel_rfl) (by rw [hb]; kernel_rfl) (by kernel_rfl) ?_
      refine ls_nil ?_
      refine then_normal ?_
      exact ⟨(fun i => ([undef, undef]).getD i undef), (.bool true), by kernel_rfl, HA, H⟩
    · rintro _ w_1 ⟨D_1, x15, rfl, HA_1, H⟩
      refine ls_nil ?_
      refine then_normal ?_
      refine fr_eq (b := ⟨#[x0, x1, undef, undef, x0, x5, x6, x7, x7, (D 0), (D 1), x11, x11, (D_1 0), (D_1 1), x15, undef, undef, undef, undef, undef, undef, undef, undef, undef, undef, undef, undef, undef, undef, undef], []⟩) (by kernel_rfl) ?_
      refine wp_if rfl H (fun H => ?_) (fun H => ?_)
      · refine wp_ret ?_
        refine then_ret ?_
        exact end0 (Try.results19) (by kernel_rfl) HA_1 H _ (.inr rfl)
      · refine wp_skip ?_
        refine then_normal ?_
        refine fr_eq (b := ⟨#[x0, x1, undef, undef, x0, x5, x6, x7, x7, (D 0), (D 1), x11, x11, (D_1 0), (D_1 1), x15, undef, undef, undef, undef, undef, undef, undef, undef, undef, undef, undef, undef, undef, undef, undef], []⟩) (by kernel_rfl) ?_
        refine wp_seq ?_
        refine lwp_list ?_
        refine ls_move (x := x0) (by kernel_rfl) (by kernel_rfl) ?_
        refine ls_move (x := x0) (by kernel_rfl) (by kernel_rfl) ?_
        refine ls_p (d := some 18) (by kernel_rfl) (by kernel_rfl) (p_nil (by kernel_rfl) H) (fun x18 H => ?_)
        refine ls_p (d := some 19) (by kernel_rfl) (by kernel_rfl) (p_off Try.underlying82 rfl (fun w => ⟨_, Try.sizeOf3 w⟩) rfl (by kernel_rfl) H) (fun x19 H => ?_)
        refine ls_y (d := some 20) (by kernel_rfl) (by kernel_rfl) HA_1 (y_ld Try.isAgg3 (by kernel_rfl) H) (fun x20 H => ?_)
        refine ls_move (x := x1) (by kernel_rfl) (by kernel_rfl) ?_
        refine ls_fr (b := ⟨#[x0, x1, undef, undef, x0, x5, x6, x7, x7, (D 0), (D 1), x11, x11, (D_1 0), (D_1 1), x15, x0, x0, x18, x19, x20, x1, undef, undef, undef, undef, undef, undef, undef, undef, undef], []⟩) (by kernel_rfl) ?_
        refine ls_p (d := some 22) (by kernel_rfl) (by kernel_rfl) (p_add (by kernel_rfl) (by kernel_rfl) H) (fun x22 H => ?_)
        refine ls_p (d := some 23) (by kernel_rfl) (by kernel_rfl) (p_min (by kernel_rfl) (by kernel_rfl) H) (fun x23 H => ?_)
        refine ls_p (d := some 24) (by kernel_rfl) (by kernel_rfl) (p_nil (by kernel_rfl) H) (fun x24 H => ?_)
        refine ls_p (d := some 25) (by kernel_rfl) (by kernel_rfl) (p_off Try.underlying82 rfl (fun w => ⟨_, Try.sizeOf3 w⟩) rfl (by kernel_rfl) H) (fun x25 H => ?_)
        refine ls_d (d := none) (by kernel_rfl) (by kernel_rfl) HA_1 (d_st Try.sizeOf3 (by kernel_rfl) (by kernel_rfl) H) (fun _ h w_2 H HA_2 => ?_)
        refine ls_nil ?_
        refine then_normal ?_
        refine fr_eq (b := ⟨#[x0, x1, undef, undef, x0, x5, x6, x7, x7, (D 0), (D 1), x11, x11, (D_1 0), (D_1 1), x15, x0, x0, x18, x19, x20, x1, x22, x23, x24, x25, undef, undef, undef, undef, undef], []⟩) (by kernel_rfl) ?_
        refine wp_seq ?_
        refine lwp_list ?_
        refine ls_move (x := x0) (by kernel_rfl) (by kernel_rfl) ?_
        refine ls_p (d := some 27) (by kernel_rfl) (by kernel_rfl) (p_nil (by kernel_rfl) H) (fun x27 H => ?_)
        refine ls_p (d := some 28) (by kernel_rfl) (by kernel_rfl) (p_off Try.underlying82 rfl (fun w => ⟨_, Try.sizeOf3 w⟩) rfl (by kernel_rfl) H) (fun x28 H => ?_)
        refine ls_d (d := none) (by kernel_rfl) (by kernel_rfl) HA_2 (d_st Try.sizeOf3 (by kernel_rfl) (by kernel_rfl) H) (fun _ h_1 w_3 H HA_3 => ?_)
        refine ls_nil ?_
        refine then_normal ?_
        refine fr_eq (b := ⟨#[x0, x1, undef, undef, x0, x5, x6, x7, x7, (D 0), (D 1), x11, x11, (D_1 0), (D_1 1), x15, x0, x0, x18, x19, x20, x1, x22, x23, x24, x25, x0, x27, x28, undef, undef], []⟩) (by kernel_rfl) ?_
        refine lwp_list ?_
        refine ls_move (x := x0) (by kernel_rfl) (by kernel_rfl) ?_
        refine ls_d (d := some 30) (by kernel_rfl) (by kernel_rfl) HA_3 (d_call (by kernel_rfl) (by kernel_rfl) H) (fun x30 h_2 w_4 H HA_4 => ?_)
        refine ls_nil ?_
        exact end0 (Try.results19) (by kernel_rfl) HA_4 H _ (.inl rfl)

end Go.Proofs.Ytecoejjpdogklaa
