/- The shallow reading of one function, and that the function does it. Written by a program. -/
import Derived.Test.YtkagmlpnidijaaaFnC
set_option linter.unusedVariables false
namespace Go.Proofs.Ytkagmlpnidijaaa
open Go Go.HW

def pen_low_j2 (R : Value → Heap → Prop) (x5_1 : Value) (h_1 : Heap) : Prop :=
  R x5_1 h_1
def pen_low_j1 (R : Value → Heap → Prop) (x0 x5 : Value) (h : Heap) : Prop :=
  sGe x0 (.int .i64 8) fun x11 =>
  sIf x11 (sAdd .i64 x5 (.int .i64 85) fun x13 =>
  pen_low_j2 R x13 h) (pen_low_j2 R x5 h)
def pen_low_S (x0 x1 : Value) (h : Heap) (R : Value → Heap → Prop) : Prop :=
  sBits .and .i64 x0 x1 fun x8 =>
  sNe x8 (.int .i64 0) fun x9 =>
  sIf x9 (pen_low_j1 R x0 (.int .i64 170) h) (pen_low_j1 R x0 (.int .i64 0) h)
set_option maxRecDepth 100000 in
theorem pen_low_runs {x0 x1 : Value} {h : Heap} {R : Value → Heap → Prop} (H : pen_low_S x0 x1 h R) : pen_low_c x0 x1 h R := by
  unfold pen_low_S at H
  refine runs_of (b := ⟨#[x0, x1, undef, undef, undef, undef, undef, undef, undef, undef, undef, undef, undef, undef, undef], []⟩) Try.call71 Try.func71 rfl (by kernel_rfl) (fun w0 HA => ?_)
  refine wp_seq ?_
  refine lwp_list ?_
  refine ls_assign (x := (.int .i64 0)) (by kernel_rfl) (by kernel_rfl) ?_
  refine ls_nil ?_
  refine then_normal ?_
  refine fr_eq (b := ⟨#[x0, x1, undef, undef, (.int .i64 0), undef, undef, undef, undef, undef, undef, undef, undef, undef, undef], []⟩) (by kernel_rfl) ?_
  refine wp_seq ?_
  refine lwp_list ?_
  refine ls_assign (x := (.int .i64 0)) (by kernel_rfl) (by kernel_rfl) ?_
  refine ls_nil ?_
  refine then_normal ?_
  refine fr_eq (b := ⟨#[x0, x1, undef, undef, (.int .i64 0), (.int .i64 0), undef, undef, undef, undef, undef, undef, undef, undef, undef], []⟩) (by kernel_rfl) ?_
  refine wp_seq ?_
  refine wp_seq ?_
  refine lwp_list ?_
  refine ls_move (x := x0) (by kernel_rfl) (by kernel_rfl) ?_
  refine ls_move (x := x1) (by kernel_rfl) (by kernel_rfl) ?_
  refine ls_p (d := some 8) (by kernel_rfl) (by kernel_rfl) (p_bits (by decide) (by kernel_rfl) (by kernel_rfl) H) (fun x8 H => ?_)
  refine ls_p (d := some 9) (by kernel_rfl) (by kernel_rfl) (p_sNe (by kernel_rfl) (by kernel_rfl) H) (fun x9 H => ?_)
  refine ls_nil ?_
  refine then_normal ?_
  refine fr_eq (b := ⟨#[x0, x1, undef, undef, (.int .i64 0), (.int .i64 0), x0, x1, x8, x9, undef, undef, undef, undef, undef], []⟩) (by kernel_rfl) ?_
  refine wp_join (fun a w => ∃ (D : Nat → Value) (x5 : Value) (h : Heap), a = ⟨#[x0, x1, undef, undef, (.int .i64 0), x5, x0, x1, x8, x9, undef, undef, undef, undef, undef], []⟩ ∧ At w0 w h ∧ pen_low_j1 R x0 x5 h) ?_ ?_
  · refine wp_if rfl H (fun H => ?_) (fun H => ?_)
    · refine lwp_list ?_
      refine ls_assign (x := (.int .i64 170)) (by kernel_rfl) (by kernel_rfl) ?_
      refine ls_nil ?_
      exact ⟨(fun i => ([]).getD i undef), (.int .i64 170), h, by kernel_rfl, HA, H⟩
    · refine wp_skip ?_
      exact ⟨(fun i => ([]).getD i undef), (.int .i64 0), h, by kernel_rfl, HA, H⟩
  · rintro _ w ⟨D, x5, h, rfl, HA, H⟩
    unfold pen_low_j1 at H
    refine then_normal ?_
    refine fr_eq (b := ⟨#[x0, x1, undef, undef, (.int .i64 0), x5, x0, x1, x8, x9, undef, undef, undef, undef, undef], []⟩) (by kernel_rfl) ?_
    refine wp_seq ?_
    refine wp_seq ?_
    refine lwp_list ?_
    refine ls_move (x := x0) (by kernel_rfl) (by kernel_rfl) ?_
    refine ls_p (d := some 11) (by kernel_rfl) (by kernel_rfl) (p_sGe (by kernel_rfl) (by kernel_rfl) H) (fun x11 H => ?_)
    refine ls_nil ?_
    refine then_normal ?_
    refine fr_eq (b := ⟨#[x0, x1, undef, undef, (.int .i64 0), x5, x0, x1, x8, x9, x0, x11, undef, undef, undef], []⟩) (by kernel_rfl) ?_
    refine wp_join (fun a w => ∃ (D_1 : Nat → Value) (x5_1 : Value) (h_1 : Heap), a = ⟨#[x0, x1, undef, undef, (.int .i64 0), x5_1, x0, x1, x8, x9, x0, x11, (D_1 0), (D_1 1), undef], []⟩ ∧ At w0 w h_1 ∧ pen_low_j2 R x5_1 h_1) ?_ ?_
    · refine wp_if rfl H (fun H => ?_) (fun H => ?_)
      · refine lwp_list ?_
        refine ls_move (x := x5) (by kernel_rfl) (by kernel_rfl) ?_
        refine ls_p (d := some 13) (by kernel_rfl) (by kernel_rfl) (p_add (by kernel_rfl) (by kernel_rfl) H) (fun x13 H => ?_)
        refine ls_assign (x := x13) (by kernel_rfl) (by kernel_rfl) ?_
        refine ls_nil ?_
        exact ⟨(fun i => ([x5, x13]).getD i undef), x13, h, by kernel_rfl, HA, H⟩
      · refine wp_skip ?_
        exact ⟨(fun i => ([undef, undef]).getD i undef), x5, h, by kernel_rfl, HA, H⟩
    · rintro _ w_1 ⟨D_1, x5_1, h_1, rfl, HA_1, H⟩
      unfold pen_low_j2 at H
      refine then_normal ?_
      refine fr_eq (b := ⟨#[x0, x1, undef, undef, (.int .i64 0), x5_1, x0, x1, x8, x9, x0, x11, (D_1 0), (D_1 1), undef], []⟩) (by kernel_rfl) ?_
      refine wp_seq ?_
      refine lwp_list ?_
      refine ls_move (x := x5_1) (by kernel_rfl) (by kernel_rfl) ?_
      refine ls_assign (x := x5_1) (by kernel_rfl) (by kernel_rfl) ?_
      refine ls_nil ?_
      refine then_normal ?_
      refine fr_eq (b := ⟨#[x0, x1, undef, undef, x5_1, x5_1, x0, x1, x8, x9, x0, x11, (D_1 0), (D_1 1), x5_1], []⟩) (by kernel_rfl) ?_
      refine wp_ret ?_
      exact end1 (Try.results71) (by kernel_rfl) (by kernel_rfl) HA_1 H _ (.inr rfl)

end Go.Proofs.Ytkagmlpnidijaaa
