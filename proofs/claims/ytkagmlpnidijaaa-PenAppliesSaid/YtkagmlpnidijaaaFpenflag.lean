/- The shallow reading of one function, and that the function does it. Written by a program. -/
import Derived.Test.YtkagmlpnidijaaaFnC
set_option linter.unusedVariables false
namespace Go.Proofs.Ytkagmlpnidijaaa
open Go Go.HW

def pen_flag_S (x0 : Value) (h : Heap) (R : Value → Heap → Prop) : Prop :=
  sGe x0 (.int .i64 1) fun x5 =>
  sAnd x5 (fun k_1 =>
  sLe x0 (.int .i64 5) fun x8 =>
  k_1 x8) fun x9 =>
  sIf x9 (sSub .i64 x0 (.int .i64 1) fun x11 =>
  sShl .i64 (.int .i64 1) x11 fun x12 =>
  R x12 h) (sGe x0 (.int .i64 7) fun x15 =>
  sAnd x15 (fun k =>
  sLe x0 (.int .i64 9) fun x18 =>
  k x18) fun x19 =>
  sIf x19 (sSub .i64 x0 (.int .i64 2) fun x21 =>
  sShl .i64 (.int .i64 1) x21 fun x22 =>
  R x22 h) (R (.int .i64 0) h))
set_option maxRecDepth 100000 in
theorem pen_flag_runs {x0 : Value} {h : Heap} {R : Value → Heap → Prop} (H : pen_flag_S x0 h R) : pen_flag_c x0 h R := by
  unfold pen_flag_S at H
  refine runs_of (b := ⟨#[x0, undef, undef, undef, undef, undef, undef, undef, undef, undef, undef, undef, undef, undef, undef, undef, undef, undef, undef, undef, undef, undef, undef], []⟩) Try.call66 Try.func66 rfl (by kernel_rfl) (fun w0 HA => ?_)
  refine wp_seq ?_
  refine lwp_list ?_
  refine ls_assign (x := (.int .i64 0)) (by kernel_rfl) (by kernel_rfl) ?_
  refine ls_nil ?_
  refine then_normal ?_
  refine fr_eq (b := ⟨#[x0, undef, (.int .i64 0), undef, undef, undef, undef, undef, undef, undef, undef, undef, undef, undef, undef, undef, undef, undef, undef, undef, undef, undef, undef], []⟩) (by kernel_rfl) ?_
  refine wp_seq ?_
  refine wp_block ?_
  refine wp_seq ?_
  refine lwp_list ?_
  refine ls_move (x := x0) (by kernel_rfl) (by kernel_rfl) ?_
  refine ls_p (d := some 5) (by kernel_rfl) (by kernel_rfl) (p_sGe (by kernel_rfl) (by kernel_rfl) H) (fun x5 H => ?_)
  refine ls_move (x := x5) (by kernel_rfl) (by kernel_rfl) ?_
  refine ls_and [(), (), ()] (fun K a w => ∃ (D : Nat → Value) (x9 : Value), a = ⟨#[x0, undef, (.int .i64 0), undef, x0, x5, x5, (D 0), (D 1), x9, undef, undef, undef, undef, undef, undef, undef, undef, undef, undef, undef, undef, undef], []⟩ ∧ At w0 w h ∧ K x9) H (fun hb_1 H => ?_) (fun hb_1 H => ?_) ?_
  · refine ls_move (x := x0) (by rw [hb_1]; kernel_rfl) (by kernel_rfl) ?_
    refine ls_p (d := some 8) (by kernel_rfl) (by rw [hb_1]; kernel_rfl) (p_sLe (by kernel_rfl) (by kernel_rfl) H) (fun x8 H => ?_)
    refine ls_pick_t (x := x8) (by kernel_rfl) (by rw [hb_1]; kernel_rfl) (by kernel_rfl) ?_
    refine ls_nil ?_
    refine then_normal ?_
    exact ⟨(fun i => ([x0, x8]).getD i undef), x8, by kernel_rfl, HA, H⟩
  · refine ls_skip (d := some 7) (by kernel_rfl) (by rw [hb_1]; kernel_rfl) ?_
    refine ls_skip (d := some 8) (by kernel_rfl) (by rw [hb_1]; kernel_rfl) ?_
    refine ls_pick_f (y := (.bool false)) (by kernel_rfl) (by rw [hb_1]; kernel_rfl) (by kernel_rfl) ?_
    refine ls_nil ?_
    refine then_normal ?_
    exact ⟨(fun i => ([undef, undef]).getD i undef), (.bool false), by kernel_rfl, HA, H⟩
  · rintro _ w ⟨D, x9, rfl, HA, H⟩
    refine ls_assign (x := x9) (by kernel_rfl) (by kernel_rfl) ?_
    refine ls_nil ?_
    refine then_normal ?_
    refine fr_eq (b := ⟨#[x0, undef, (.int .i64 0), x9, x0, x5, x5, (D 0), (D 1), x9, undef, undef, undef, undef, undef, undef, undef, undef, undef, undef, undef, undef, undef], []⟩) (by kernel_rfl) ?_
    refine wp_if rfl H (fun H => ?_) (fun H => ?_)
    · refine wp_seq ?_
      refine lwp_list ?_
      refine ls_move (x := x0) (by kernel_rfl) (by kernel_rfl) ?_
      refine ls_p (d := some 11) (by kernel_rfl) (by kernel_rfl) (p_sub (by kernel_rfl) (by kernel_rfl) H) (fun x11 H => ?_)
      refine ls_p (d := some 12) (by kernel_rfl) (by kernel_rfl) (p_shl (by kernel_rfl) (by kernel_rfl) H) (fun x12 H => ?_)
      refine ls_assign (x := x12) (by kernel_rfl) (by kernel_rfl) ?_
      refine ls_nil ?_
      refine then_normal ?_
      refine fr_eq (b := ⟨#[x0, undef, x12, x9, x0, x5, x5, (D 0), (D 1), x9, x0, x11, x12, undef, undef, undef, undef, undef, undef, undef, undef, undef, undef], []⟩) (by kernel_rfl) ?_
      refine wp_ret ?_
      refine block_ret ?_
      refine then_ret ?_
      exact end1 (Try.results66) (by kernel_rfl) (by kernel_rfl) HA H _ (.inr rfl)
    · refine wp_seq ?_
      refine lwp_list ?_
      refine ls_move (x := x0) (by kernel_rfl) (by kernel_rfl) ?_
      refine ls_p (d := some 15) (by kernel_rfl) (by kernel_rfl) (p_sGe (by kernel_rfl) (by kernel_rfl) H) (fun x15 H => ?_)
      refine ls_move (x := x15) (by kernel_rfl) (by kernel_rfl) ?_
      refine ls_and [(), (), ()] (fun K a w => ∃ (D_1 : Nat → Value) (x19 : Value), a = ⟨#[x0, undef, (.int .i64 0), x9, x0, x5, x5, (D 0), (D 1), x9, undef, undef, undef, undef, x0, x15, x15, (D_1 0), (D_1 1), x19, undef, undef, undef], []⟩ ∧ At w0 w h ∧ K x19) H (fun hb H => ?_) (fun hb H => ?_) ?_
      · refine ls_move (x := x0) (by rw [hb]; kernel_rfl) (by kernel_rfl) ?_
        refine ls_p (d := some 18) (by kernel_rfl) (by rw [hb]; kernel_rfl) (p_sLe (by kernel_rfl) (by kernel_rfl) H) (fun x18 H => ?_)
        refine ls_pick_t (x := x18) (by kernel_rfl) (by rw [hb]; kernel_rfl) (by kernel_rfl) ?_
        refine ls_nil ?_
        refine then_normal ?_
        exact ⟨(fun i => ([x0, x18]).getD i undef), x18, by kernel_rfl, HA, H⟩
      · refine ls_skip (d := some 17) (by kernel_rfl) (by rw [hb]; kernel_rfl) ?_
        refine ls_skip (d := some 18) (by kernel_rfl) (by rw [hb]; kernel_rfl) ?_
        refine ls_pick_f (y := (.bool false)) (by kernel_rfl) (by rw [hb]; kernel_rfl) (by kernel_rfl) ?_
        refine ls_nil ?_
        refine then_normal ?_
        exact ⟨(fun i => ([undef, undef]).getD i undef), (.bool false), by kernel_rfl, HA, H⟩
      · rintro _ w_1 ⟨D_1, x19, rfl, HA_1, H⟩
        refine ls_assign (x := x19) (by kernel_rfl) (by kernel_rfl) ?_
        refine ls_nil ?_
        refine then_normal ?_
        refine fr_eq (b := ⟨#[x0, undef, (.int .i64 0), x9, x0, x5, x5, (D 0), (D 1), x9, undef, undef, undef, x19, x0, x15, x15, (D_1 0), (D_1 1), x19, undef, undef, undef], []⟩) (by kernel_rfl) ?_
        refine wp_if rfl H (fun H => ?_) (fun H => ?_)
        · refine wp_seq ?_
          refine lwp_list ?_
          refine ls_move (x := x0) (by kernel_rfl) (by kernel_rfl) ?_
          refine ls_p (d := some 21) (by kernel_rfl) (by kernel_rfl) (p_sub (by kernel_rfl) (by kernel_rfl) H) (fun x21 H => ?_)
          refine ls_p (d := some 22) (by kernel_rfl) (by kernel_rfl) (p_shl (by kernel_rfl) (by kernel_rfl) H) (fun x22 H => ?_)
          refine ls_assign (x := x22) (by kernel_rfl) (by kernel_rfl) ?_
          refine ls_nil ?_
          refine then_normal ?_
          refine fr_eq (b := ⟨#[x0, undef, x22, x9, x0, x5, x5, (D 0), (D 1), x9, undef, undef, undef, x19, x0, x15, x15, (D_1 0), (D_1 1), x19, x0, x21, x22], []⟩) (by kernel_rfl) ?_
          refine wp_ret ?_
          refine block_ret ?_
          refine then_ret ?_
          exact end1 (Try.results66) (by kernel_rfl) (by kernel_rfl) HA_1 H _ (.inr rfl)
        · refine wp_skip ?_
          refine block_normal ?_
          refine then_normal ?_
          refine fr_eq (b := ⟨#[x0, undef, (.int .i64 0), x9, x0, x5, x5, (D 0), (D 1), x9, undef, undef, undef, x19, x0, x15, x15, (D_1 0), (D_1 1), x19, undef, undef, undef], []⟩) (by kernel_rfl) ?_
          refine wp_seq ?_
          refine lwp_list ?_
          refine ls_assign (x := (.int .i64 0)) (by kernel_rfl) (by kernel_rfl) ?_
          refine ls_nil ?_
          refine then_normal ?_
          refine fr_eq (b := ⟨#[x0, undef, (.int .i64 0), x9, x0, x5, x5, (D 0), (D 1), x9, undef, undef, undef, x19, x0, x15, x15, (D_1 0), (D_1 1), x19, undef, undef, undef], []⟩) (by kernel_rfl) ?_
          refine wp_ret ?_
          exact end1 (Try.results66) (by kernel_rfl) (by kernel_rfl) HA_1 H _ (.inr rfl)

end Go.Proofs.Ytkagmlpnidijaaa
