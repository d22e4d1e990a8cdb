/- The shallow reading of one function, and that the function does it. Written by a program. -/
import Derived.Test.YthhpieidlpjbmaaFnC
set_option linter.unusedVariables false
namespace Go.Proofs.Ythhpieidlpjbmaa
open Go Go.HW

def grid_Grid_Resize_j1 (R : Value → Heap → Prop) (x10 : Value) (h_1 : Heap) : Prop :=
  R x10 h_1
def grid_Grid_Resize_S (x0 x1 x2 : Value) (h : Heap) (R : Value → Heap → Prop) : Prop :=
  grid_New_c x1 x2 h fun x10 h => 
  sNeqNil x10 fun x12 =>
  sIf x12 (grid_Grid_all_c x0 h fun x16 h_2 => 
  grid_Grid_Blit_c x0 x10 x16 (.int .i64 0) (.int .i64 0) h_2 fun x17 h_3 => 
  grid_Grid_Resize_j1 R x10 h_3) (grid_Grid_Resize_j1 R x10 h)
set_option maxRecDepth 100000 in
theorem grid_Grid_Resize_runs {x0 x1 x2 : Value} {h : Heap} {R : Value → Heap → Prop} (H : grid_Grid_Resize_S x0 x1 x2 h R) : grid_Grid_Resize_c x0 x1 x2 h R := by
  unfold grid_Grid_Resize_S at H
  refine runs_of (b := ⟨#[x0, x1, x2, undef, undef, undef, undef, undef, undef, undef, undef, undef, undef, undef, undef, undef, undef, undef, undef], []⟩) Try.call22 Try.func22 rfl (by kernel_rfl) (fun w0 HA => ?_)
  refine wp_seq ?_
  refine lwp_list ?_
  refine ls_assign (x := (.pointer none)) (by kernel_rfl) (by kernel_rfl) ?_
  refine ls_nil ?_
  refine then_normal ?_
  refine fr_eq (b := ⟨#[x0, x1, x2, undef, undef, undef, (.pointer none), undef, undef, undef, undef, undef, undef, undef, undef, undef, undef, undef, undef], []⟩) (by kernel_rfl) ?_
  refine wp_seq ?_
  refine lwp_list ?_
  refine ls_move (x := x1) (by kernel_rfl) (by kernel_rfl) ?_
  refine ls_move (x := x2) (by kernel_rfl) (by kernel_rfl) ?_
  refine ls_d (d := some 10) (by kernel_rfl) (by kernel_rfl) HA (d_call (by kernel_rfl) (by kernel_rfl) H) (fun x10 h w H HA => ?_)
  refine ls_assign (x := x10) (by kernel_rfl) (by kernel_rfl) ?_
  refine ls_nil ?_
  refine then_normal ?_
  refine fr_eq (b := ⟨#[x0, x1, x2, undef, undef, undef, (.pointer none), x10, x1, x2, x10, undef, undef, undef, undef, undef, undef, undef, undef], []⟩) (by kernel_rfl) ?_
  refine wp_seq ?_
  refine wp_seq ?_
  refine lwp_list ?_
  refine ls_move (x := x10) (by kernel_rfl) (by kernel_rfl) ?_
  refine ls_p (d := some 12) (by kernel_rfl) (by kernel_rfl) (p_neqNil Try.underlying28 (by kernel_rfl) (by kernel_rfl) H) (fun x12 H => ?_)
  refine ls_nil ?_
  refine then_normal ?_
  refine fr_eq (b := ⟨#[x0, x1, x2, undef, undef, undef, (.pointer none), x10, x1, x2, x10, x10, x12, undef, undef, undef, undef, undef, undef], []⟩) (by kernel_rfl) ?_
  refine wp_join (fun a w => ∃ (D : Nat → Value) (h_1 : Heap), a = ⟨#[x0, x1, x2, undef, undef, undef, (.pointer none), x10, x1, x2, x10, x10, x12, (D 0), (D 1), (D 2), (D 3), (D 4), undef], []⟩ ∧ At w0 w h_1 ∧ grid_Grid_Resize_j1 R x10 h_1) ?_ ?_
  · refine wp_if rfl H (fun H => ?_) (fun H => ?_)
    · refine lwp_list ?_
      refine ls_move (x := x0) (by kernel_rfl) (by kernel_rfl) ?_
      refine ls_move (x := x10) (by kernel_rfl) (by kernel_rfl) ?_
      refine ls_move (x := x0) (by kernel_rfl) (by kernel_rfl) ?_
      refine ls_d (d := some 16) (by kernel_rfl) (by kernel_rfl) HA (d_call (by kernel_rfl) (by kernel_rfl) H) (fun x16 h_2 w_2 H HA_2 => ?_)
      refine ls_d (d := some 17) (by kernel_rfl) (by kernel_rfl) HA_2 (d_call (by kernel_rfl) (by kernel_rfl) H) (fun x17 h_3 w_3 H HA_3 => ?_)
      refine ls_nil ?_
      exact ⟨(fun i => ([x0, x10, x0, x16, x17]).getD i undef), h_3, by kernel_rfl, HA_3, H⟩
    · refine wp_skip ?_
      exact ⟨(fun i => ([undef, undef, undef, undef, undef]).getD i undef), h, by kernel_rfl, HA, H⟩
  · rintro _ w_1 ⟨D, h_1, rfl, HA_1, H⟩
    unfold grid_Grid_Resize_j1 at H
    refine then_normal ?_
    refine fr_eq (b := ⟨#[x0, x1, x2, undef, undef, undef, (.pointer none), x10, x1, x2, x10, x10, x12, (D 0), (D 1), (D 2), (D 3), (D 4), undef], []⟩) (by kernel_rfl) ?_
    refine wp_seq ?_
    refine lwp_list ?_
    refine ls_move (x := x10) (by kernel_rfl) (by kernel_rfl) ?_
    refine ls_assign (x := x10) (by kernel_rfl) (by kernel_rfl) ?_
    refine ls_nil ?_
    refine then_normal ?_
    refine fr_eq (b := ⟨#[x0, x1, x2, undef, undef, undef, x10, x10, x1, x2, x10, x10, x12, (D 0), (D 1), (D 2), (D 3), (D 4), x10], []⟩) (by kernel_rfl) ?_
    refine wp_ret ?_
    exact end1 (Try.results22) (by kernel_rfl) (by kernel_rfl) HA_1 H _ (.inr rfl)

end Go.Proofs.Ythhpieidlpjbmaa
