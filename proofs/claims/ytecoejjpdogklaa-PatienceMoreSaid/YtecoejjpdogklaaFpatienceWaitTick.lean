/- The shallow reading of one function, and that the function does it. Written by a program. -/
import Derived.Test.YtecoejjpdogklaaFnC
set_option linter.unusedVariables false
namespace Go.Proofs.Ytecoejjpdogklaa
open Go Go.HW

def patience_Wait_Tick_j1 (R : Value → Heap → Prop) (x0 : Value) (h : Heap) : Prop :=
  patience_Wait_look_c x0 h fun x26 h_1 => 
  R unit h_1
def patience_Wait_Tick_S (x0 : Value) (h : Heap) (R : Value → Heap → Prop) : Prop :=
  sNil x0 fun x3 =>
  sOff x3 5 fun x4 =>
  sLd h x4 fun x5 =>
  sIf x5 (R unit h) (sNil x0 fun x7 =>
  sOff x7 0 fun x8 =>
  sLd h x8 fun x9 =>
  sEq x9 (.int .i64 0) fun x10 =>
  sOr x10 (fun k =>
  sNil x0 fun x13 =>
  sOff x13 3 fun x14 =>
  sLd h x14 fun x15 =>
  sGt x15 (.int .i64 0) fun x16 =>
  k x16) fun x17 =>
  sIf x17 (sNil x0 fun x19 =>
  sOff x19 4 fun x20 =>
  sLd h x20 fun x21 =>
  sAdd .i64 x21 (.int .i64 1) fun x22 =>
  sNil x0 fun x23 =>
  sOff x23 4 fun x24 =>
  sSt h x24 x22 fun h_2 => 
  patience_Wait_Tick_j1 R x0 h_2) (patience_Wait_Tick_j1 R x0 h))
set_option maxRecDepth 100000 in
theorem patience_Wait_Tick_runs {x0 : Value} {h : Heap} {R : Value → Heap → Prop} (H : patience_Wait_Tick_S x0 h R) : patience_Wait_Tick_c x0 h R := by
  unfold patience_Wait_Tick_S at H
  refine runs_of (b := ⟨#[x0, undef, undef, undef, undef, undef, undef, undef, undef, undef, undef, undef, undef, undef, undef, undef, undef, undef, undef, undef, undef, undef, undef, undef, undef, undef, undef], []⟩) Try.call20 Try.func20 rfl (by kernel_rfl) (fun w0 HA => ?_)
  refine wp_seq ?_
  refine wp_seq ?_
  refine lwp_list ?_
  refine ls_move (x := x0) (by kernel_rfl) (by kernel_rfl) ?_
  refine ls_p (d := some 3) (by kernel_rfl) (by kernel_rfl) (p_nil (by kernel_rfl) H) (fun x3 H => ?_)
  refine ls_p (d := some 4) (by kernel_rfl) (by kernel_rfl) (p_off Try.underlying82 rfl (fun w => ⟨_, Try.sizeOf4 w⟩) rfl (by kernel_rfl) H) (fun x4 H => ?_)
  refine ls_y (d := some 5) (by kernel_rfl) (by kernel_rfl) HA (y_ld Try.isAgg4 (by kernel_rfl) H) (fun x5 H => ?_)
  refine ls_nil ?_
  refine then_normal ?_
  refine fr_eq (b := ⟨#[x0, undef, x0, x3, x4, x5, undef, undef, undef, undef, undef, undef, undef, undef, undef, undef, undef, undef, undef, undef, undef, undef, undef, undef, undef, undef, undef], []⟩) (by kernel_rfl) ?_
  refine wp_if rfl H (fun H => ?_) (fun H => ?_)
  · refine wp_ret ?_
    refine then_ret ?_
    exact end0 (Try.results20) (by kernel_rfl) HA H _ (.inr rfl)
  · refine wp_skip ?_
    refine then_normal ?_
    refine fr_eq (b := ⟨#[x0, undef, x0, x3, x4, x5, undef, undef, undef, undef, undef, undef, undef, undef, undef, undef, undef, undef, undef, undef, undef, undef, undef, undef, undef, undef, undef], []⟩) (by kernel_rfl) ?_
    refine wp_seq ?_
    refine wp_seq ?_
    refine lwp_list ?_
    refine ls_move (x := x0) (by kernel_rfl) (by kernel_rfl) ?_
    refine ls_p (d := some 7) (by kernel_rfl) (by kernel_rfl) (p_nil (by kernel_rfl) H) (fun x7 H => ?_)
    refine ls_p (d := some 8) (by kernel_rfl) (by kernel_rfl) (p_off Try.underlying82 rfl (fun w => ⟨_, Try.sizeOf3 w⟩) rfl (by kernel_rfl) H) (fun x8 H => ?_)
    refine ls_y (d := some 9) (by kernel_rfl) (by kernel_rfl) HA (y_ld Try.isAgg3 (by kernel_rfl) H) (fun x9 H => ?_)
    refine ls_p (d := some 10) (by kernel_rfl) (by kernel_rfl) (p_sEq (by kernel_rfl) (by kernel_rfl) H) (fun x10 H => ?_)
    refine ls_move (x := x10) (by kernel_rfl) (by kernel_rfl) ?_
    refine ls_fr (b := ⟨#[x0, undef, x0, x3, x4, x5, x0, x7, x8, x9, x10, x10, undef, undef, undef, undef, undef, undef, undef, undef, undef, undef, undef, undef, undef, undef, undef], []⟩) (by kernel_rfl) ?_
    refine ls_or [(), (), (), (), (), ()] (fun K a w => ∃ (D : Nat → Value) (x17 : Value), a = ⟨#[x0, undef, x0, x3, x4, x5, x0, x7, x8, x9, x10, x10, (D 0), (D 1), (D 2), (D 3), (D 4), x17, undef, undef, undef, undef, undef, undef, undef, undef, undef], []⟩ ∧ At w0 w h ∧ K x17) H (fun hb H => ?_) (fun hb H => ?_) ?_
    · refine ls_move (x := x0) (by rw [hb]; kernel_rfl) (by kernel_rfl) ?_
      refine ls_p (d := some 13) (by kernel_rfl) (by rw [hb]; kernel_rfl) (p_nil (by kernel_rfl) H) (fun x13 H => ?_)
      refine ls_p (d := some 14) (by kernel_rfl) (by rw [hb]; kernel_rfl) (p_off Try.underlying82 rfl (fun w => ⟨_, Try.sizeOf3 w⟩) rfl (by kernel_rfl) H) (fun x14 H => ?_)
      refine ls_y (d := some 15) (by kernel_rfl) (by rw [hb]; kernel_rfl) HA (y_ld Try.isAgg3 (by kernel_rfl) H) (fun x15 H => ?_)
      refine ls_p (d := some 16) (by kernel_rfl) (by rw [hb]; kernel_rfl) (p_sGt (by kernel_rfl) (by kernel_rfl) H) (fun x16 H => ?_)
      refine ls_pick_f (y := x16) (by kernel_rfl) (by rw [hb]; kernel_rfl) (by kernel_rfl) ?_
      refine ls_nil ?_
      refine then_normal ?_
      exact ⟨(fun i => ([x0, x13, x14, x15, x16]).getD i undef), x16, by kernel_rfl, HA, H⟩
    · refine ls_skip (d := some 12) (by kernel_rfl) (by rw [hb]; kernel_rfl) ?_
      refine ls_skip (d := some 13) (by kernel_rfl) (by rw [hb]; kernel_rfl) ?_
      refine ls_skip (d := some 14) (by kernel_rfl) (by rw [hb]; kernel_rfl) ?_
      refine ls_skip (d := some 15) (by kernel_rfl) (by rw [hb]; kernel_rfl) ?_
      refine ls_skip (d := some 16) (by kernel_rfl) (by rw [hb]; kernel_rfl) ?_
      refine ls_pick_t (x := (.bool true)) (by kernel_rfl) (by rw [hb]; kernel_rfl) (by kernel_rfl) ?_
      refine ls_nil ?_
      refine then_normal ?_
      exact ⟨(fun i => ([undef, undef, undef, undef, undef]).getD i undef), (.bool true), by kernel_rfl, HA, H⟩
    · rintro _ w ⟨D, x17, rfl, HA, H⟩
      refine ls_nil ?_
      refine then_normal ?_
      refine fr_eq (b := ⟨#[x0, undef, x0, x3, x4, x5, x0, x7, x8, x9, x10, x10, (D 0), (D 1), (D 2), (D 3), (D 4), x17, undef, undef, undef, undef, undef, undef, undef, undef, undef], []⟩) (by kernel_rfl) ?_
      refine wp_join (fun a w => ∃ (D_1 : Nat → Value) (h : Heap), a = ⟨#[x0, undef, x0, x3, x4, x5, x0, x7, x8, x9, x10, x10, (D 0), (D 1), (D 2), (D 3), (D 4), x17, (D_1 0), (D_1 1), (D_1 2), (D_1 3), (D_1 4), (D_1 5), (D_1 6), undef, undef], []⟩ ∧ At w0 w h ∧ patience_Wait_Tick_j1 R x0 h) ?_ ?_
      · refine wp_if rfl H (fun H => ?_) (fun H => ?_)
        · refine lwp_list ?_
          refine ls_move (x := x0) (by kernel_rfl) (by kernel_rfl) ?_
          refine ls_p (d := some 19) (by kernel_rfl) (by kernel_rfl) (p_nil (by kernel_rfl) H) (fun x19 H => ?_)
          refine ls_p (d := some 20) (by kernel_rfl) (by kernel_rfl) (p_off Try.underlying82 rfl (fun w => ⟨_, Try.sizeOf3 w⟩) rfl (by kernel_rfl) H) (fun x20 H => ?_)
          refine ls_y (d := some 21) (by kernel_rfl) (by kernel_rfl) HA (y_ld Try.isAgg3 (by kernel_rfl) H) (fun x21 H => ?_)
          refine ls_p (d := some 22) (by kernel_rfl) (by kernel_rfl) (p_add (by kernel_rfl) (by kernel_rfl) H) (fun x22 H => ?_)
          refine ls_p (d := some 23) (by kernel_rfl) (by kernel_rfl) (p_nil (by kernel_rfl) H) (fun x23 H => ?_)
          refine ls_fr (b := ⟨#[x0, undef, x0, x3, x4, x5, x0, x7, x8, x9, x10, x10, (D 0), (D 1), (D 2), (D 3), (D 4), x17, x0, x19, x20, x21, x22, x23, undef, undef, undef], []⟩) (by kernel_rfl) ?_
          refine ls_p (d := some 24) (by kernel_rfl) (by kernel_rfl) (p_off Try.underlying82 rfl (fun w => ⟨_, Try.sizeOf3 w⟩) rfl (by kernel_rfl) H) (fun x24 H => ?_)
          refine ls_d (d := none) (by kernel_rfl) (by kernel_rfl) HA (d_st Try.sizeOf3 (by kernel_rfl) (by kernel_rfl) H) (fun _ h_2 w_3 H HA_3 => ?_)
          refine ls_nil ?_
          exact ⟨(fun i => ([x0, x19, x20, x21, x22, x23, x24]).getD i undef), h_2, by kernel_rfl, HA_3, H⟩
        · refine wp_skip ?_
          exact ⟨(fun i => ([undef, undef, undef, undef, undef, undef, undef]).getD i undef), h, by kernel_rfl, HA, H⟩
      · rintro _ w_1 ⟨D_1, h, rfl, HA_1, H⟩
        unfold patience_Wait_Tick_j1 at H
        refine then_normal ?_
        refine fr_eq (b := ⟨#[x0, undef, x0, x3, x4, x5, x0, x7, x8, x9, x10, x10, (D 0), (D 1), (D 2), (D 3), (D 4), x17, (D_1 0), (D_1 1), (D_1 2), (D_1 3), (D_1 4), (D_1 5), (D_1 6), undef, undef], []⟩) (by kernel_rfl) ?_
        refine lwp_list ?_
        refine ls_move (x := x0) (by kernel_rfl) (by kernel_rfl) ?_
        refine ls_d (d := some 26) (by kernel_rfl) (by kernel_rfl) HA_1 (d_call (by kernel_rfl) (by kernel_rfl) H) (fun x26 h_1 w_2 H HA_2 => ?_)
        refine ls_nil ?_
        exact end0 (Try.results20) (by kernel_rfl) HA_2 H _ (.inl rfl)

end Go.Proofs.Ytecoejjpdogklaa
