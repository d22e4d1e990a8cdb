/- The shallow reading of one function, and that the function does it. Written by a program. -/
import Derived.Test.YthhpieidlpjbmaaFnC
set_option linter.unusedVariables false
namespace Go.Proofs.Ythhpieidlpjbmaa
open Go Go.HW

def grid_Grid_Set_j1 (R : Value → Heap → Prop) (x14 : Value) (h_3 : Heap) : Prop :=
  R x14 h_3
def grid_Grid_Set_S (x0 x1 x2 x3 : Value) (h : Heap) (R : Value → Heap → Prop) : Prop :=
  sBox h x3 27 fun x7 h => 
  grid_Grid_all_c x0 h fun x11 h_1 => 
  rect_In_c x11 x1 x2 h_1 fun x14 h_2 => 
  sIf x14 (∃ C : Heap → Prop, C h_2 ∧ (grid_Grid_row_c x0 x2 h_2 fun x18 h_4 => C h_4 ∧ (
  sLdNC C x7 4 fun x20 =>
  sIxS x18 x1 4 fun x21 =>
  sStN h_4 x21 x20 4 fun h_5 => 
  grid_Grid_Set_j1 R x14 h_5))) (grid_Grid_Set_j1 R x14 h_2)
set_option maxRecDepth 100000 in
theorem grid_Grid_Set_runs {x0 x1 x2 x3 : Value} {h : Heap} {R : Value → Heap → Prop} (H : grid_Grid_Set_S x0 x1 x2 x3 h R) : grid_Grid_Set_c x0 x1 x2 x3 h R := by
  unfold grid_Grid_Set_S at H
  refine runs_of (b := ⟨#[x0, x1, x2, x3, undef, undef, undef, undef, undef, undef, undef, undef, undef, undef, undef, undef, undef, undef, undef, undef, undef, undef, undef], []⟩) Try.call16 Try.func16 rfl (by kernel_rfl) (fun w0 HA => ?_)
  refine wp_seq ?_
  refine lwp_list ?_
  refine ls_d (d := some 7) (by kernel_rfl) (by kernel_rfl) HA (d_box (by kernel_rfl) H) (fun x7 h w H HA => ?_)
  refine ls_assign (x := (.bool false)) (by kernel_rfl) (by kernel_rfl) ?_
  refine ls_nil ?_
  refine then_normal ?_
  refine fr_eq (b := ⟨#[x0, x1, x2, x3, undef, undef, undef, x7, (.bool false), undef, undef, undef, undef, undef, undef, undef, undef, undef, undef, undef, undef, undef, undef], []⟩) (by kernel_rfl) ?_
  refine wp_seq ?_
  refine lwp_list ?_
  refine ls_move (x := x0) (by kernel_rfl) (by kernel_rfl) ?_
  refine ls_d (d := some 11) (by kernel_rfl) (by kernel_rfl) HA (d_call (by kernel_rfl) (by kernel_rfl) H) (fun x11 h_1 w_1 H HA_1 => ?_)
  refine ls_move (x := x1) (by kernel_rfl) (by kernel_rfl) ?_
  refine ls_move (x := x2) (by kernel_rfl) (by kernel_rfl) ?_
  refine ls_d (d := some 14) (by kernel_rfl) (by kernel_rfl) HA_1 (d_call (by kernel_rfl) (by kernel_rfl) H) (fun x14 h_2 w_2 H HA_2 => ?_)
  refine ls_assign (x := x14) (by kernel_rfl) (by kernel_rfl) ?_
  refine ls_nil ?_
  refine then_normal ?_
  refine fr_eq (b := ⟨#[x0, x1, x2, x3, undef, undef, undef, x7, (.bool false), x14, x0, x11, x1, x2, x14, undef, undef, undef, undef, undef, undef, undef, undef], []⟩) (by kernel_rfl) ?_
  refine wp_seq ?_
  refine wp_seq ?_
  refine lwp_list ?_
  refine ls_move (x := x14) (by kernel_rfl) (by kernel_rfl) ?_
  refine ls_nil ?_
  refine then_normal ?_
  refine fr_eq (b := ⟨#[x0, x1, x2, x3, undef, undef, undef, x7, (.bool false), x14, x0, x11, x1, x2, x14, x14, undef, undef, undef, undef, undef, undef, undef], []⟩) (by kernel_rfl) ?_
  refine wp_join (fun a w => ∃ (D : Nat → Value) (h_3 : Heap), a = ⟨#[x0, x1, x2, x3, undef, undef, undef, x7, (.bool false), x14, x0, x11, x1, x2, x14, x14, (D 0), (D 1), (D 2), (D 3), (D 4), (D 5), undef], []⟩ ∧ At w0 w h_3 ∧ grid_Grid_Set_j1 R x14 h_3) ?_ ?_
  · refine wp_if rfl H (fun H => ?_) (fun H => ?_)
    · obtain ⟨C, HC, H⟩ := H
      refine lwp_mx (Nat.testBit 68) (Nat.testBit 4) (Nat.testBit 43) [0, 0, 3, 0, 0, 31, 63] (Nat.testBit 0) C [0, 1, 2, 3, 4, 5, 6] (by kernel_rfl) (by kernel_rfl) (by kernel_rfl) (by kernel_rfl) HA_2 HC ?_
      intro w_4 HA_4
      refine lm_al (x := x0) (d := some 16) (by kernel_rfl) rfl (by kernel_rfl) (by kernel_rfl) (al_move (by kernel_rfl)) ?_
      refine lm_al (x := x2) (d := some 17) (by kernel_rfl) rfl (by kernel_rfl) (by kernel_rfl) (al_move (by kernel_rfl)) ?_
      refine lm_dc (d := some 18) (by kernel_rfl) rfl (by kernel_rfl) (by kernel_rfl) (by kernel_rfl) HA_4 (d_call (by kernel_rfl) (by kernel_rfl) H) (fun x18 h_4 w_5 H HA_5 => ?_)
      refine lm_al (x := x1) (d := some 19) (by kernel_rfl) rfl (by kernel_rfl) (by kernel_rfl) (al_move (by kernel_rfl)) ?_
      refine lm_f (d := some 20) (by kernel_rfl) rfl (by kernel_rfl) (by kernel_rfl) (by kernel_rfl) (by kernel_rfl) (c_ldn Try.isAgg27 Try.sizeOf27 (by kernel_rfl) H) (fun x20 H => ?_)
      refine lm_p (d := some 21) (by kernel_rfl) rfl (by kernel_rfl) (by kernel_rfl) (p_ixs Try.underlying35 Try.sizeOf27 (by kernel_rfl) (by kernel_rfl) H) (fun x21 H => ?_)
      refine lm_fr (b := ⟨#[x0, x1, x2, x3, undef, undef, undef, x7, (.bool false), x14, x0, x11, x1, x2, x14, x14, x0, x2, x18, x1, x20, x21, undef], []⟩) (by kernel_rfl) ?_
      refine lm_d (d := none) (by kernel_rfl) rfl (by kernel_rfl) (by kernel_rfl) (by kernel_rfl) HA_5 (d_stn Try.sizeOf27 (by kernel_rfl) (by kernel_rfl) H) (fun _ h_5 w_6 H HA_6 => ?_)
      refine lm_nil ?_
      exact ⟨(fun i => ([x0, x2, x18, x1, x20, x21]).getD i undef), h_5, by kernel_rfl, HA_6, H⟩
    · refine wp_skip ?_
      exact ⟨(fun i => ([undef, undef, undef, undef, undef, undef]).getD i undef), h_2, by kernel_rfl, HA_2, H⟩
  · rintro _ w_3 ⟨D, h_3, rfl, HA_3, H⟩
    unfold grid_Grid_Set_j1 at H
    refine then_normal ?_
    refine fr_eq (b := ⟨#[x0, x1, x2, x3, undef, undef, undef, x7, (.bool false), x14, x0, x11, x1, x2, x14, x14, (D 0), (D 1), (D 2), (D 3), (D 4), (D 5), undef], []⟩) (by kernel_rfl) ?_
    refine wp_seq ?_
    refine lwp_list ?_
    refine ls_move (x := x14) (by kernel_rfl) (by kernel_rfl) ?_
    refine ls_assign (x := x14) (by kernel_rfl) (by kernel_rfl) ?_
    refine ls_nil ?_
    refine then_normal ?_
    refine fr_eq (b := ⟨#[x0, x1, x2, x3, undef, undef, undef, x7, x14, x14, x0, x11, x1, x2, x14, x14, (D 0), (D 1), (D 2), (D 3), (D 4), (D 5), x14], []⟩) (by kernel_rfl) ?_
    refine wp_ret ?_
    exact end1 (Try.results16) (by kernel_rfl) (by kernel_rfl) HA_3 H _ (.inr rfl)

end Go.Proofs.Ythhpieidlpjbmaa
