/- The shallow reading of one function, and that the function does it. Written by a program. -/
import Derived.Test.YthhpieidlpjbmaaFnC
set_option linter.unusedVariables false
namespace Go.Proofs.Ythhpieidlpjbmaa
open Go Go.HW

def grid_Grid_At_S (x0 x1 x2 : Value) (h : Heap) (R : Value → Heap → Prop) : Prop :=
  sNew h #[.int .i32 0, .int .i64 0, .int .i64 0, .int .i64 0] 27 fun x6 h => 
  grid_Grid_all_c x0 h fun x8 h_1 => 
  rect_In_c x8 x1 x2 h_1 fun x11 h_2 => 
  sNot x11 fun x12 =>
  sIf x12 (sBuild #[.int .i32 0, .int .i64 0, .int .i64 0, .int .i64 0] [] fun x13 =>
  sStN h_2 x6 x13 4 fun h_3 => 
  sLdN h_3 x6 4 fun r6 =>
  R r6 h_3) (grid_Grid_row_c x0 x2 h_2 fun x16 h_4 => 
  sIxS x16 x1 4 fun x18 =>
  sLdN h_4 x18 4 fun x19 =>
  sStN h_4 x6 x19 4 fun h_5 => 
  sLdN h_5 x6 4 fun r6_1 =>
  R r6_1 h_5)
set_option maxRecDepth 100000 in
theorem grid_Grid_At_runs {x0 x1 x2 : Value} {h : Heap} {R : Value → Heap → Prop} (H : grid_Grid_At_S x0 x1 x2 h R) : grid_Grid_At_c x0 x1 x2 h R := by
  unfold grid_Grid_At_S at H
  refine runs_of (b := ⟨#[x0, x1, x2, undef, undef, undef, undef, undef, undef, undef, undef, undef, undef, undef, undef, undef, undef, undef, undef, undef], []⟩) Try.call13 Try.func13 rfl (by kernel_rfl) (fun w0 HA => ?_)
  refine wp_seq ?_
  refine lwp_list ?_
  refine ls_d (d := some 6) (by kernel_rfl) (by kernel_rfl) HA (d_alloc Try.zeroValue27 H) (fun x6 h w H HA => ?_)
  refine ls_nil ?_
  refine then_normal ?_
  refine fr_eq (b := ⟨#[x0, x1, x2, undef, undef, undef, x6, undef, undef, undef, undef, undef, undef, undef, undef, undef, undef, undef, undef, undef], []⟩) (by kernel_rfl) ?_
  refine wp_seq ?_
  refine wp_seq ?_
  refine lwp_list ?_
  refine ls_move (x := x0) (by kernel_rfl) (by kernel_rfl) ?_
  refine ls_d (d := some 8) (by kernel_rfl) (by kernel_rfl) HA (d_call (by kernel_rfl) (by kernel_rfl) H) (fun x8 h_1 w_1 H HA_1 => ?_)
  refine ls_move (x := x1) (by kernel_rfl) (by kernel_rfl) ?_
  refine ls_move (x := x2) (by kernel_rfl) (by kernel_rfl) ?_
  refine ls_d (d := some 11) (by kernel_rfl) (by kernel_rfl) HA_1 (d_call (by kernel_rfl) (by kernel_rfl) H) (fun x11 h_2 w_2 H HA_2 => ?_)
  refine ls_p (d := some 12) (by kernel_rfl) (by kernel_rfl) (p_not (by kernel_rfl) H) (fun x12 H => ?_)
  refine ls_nil ?_
  refine then_normal ?_
  refine fr_eq (b := ⟨#[x0, x1, x2, undef, undef, undef, x6, x0, x8, x1, x2, x11, x12, undef, undef, undef, undef, undef, undef, undef], []⟩) (by kernel_rfl) ?_
  refine wp_if rfl H (fun H => ?_) (fun H => ?_)
  · refine wp_seq ?_
    refine lwp_list ?_
    refine ls_p (d := some 13) (by kernel_rfl) (by kernel_rfl) (p_lit (pl := [(0, 1), (1, 3)]) Try.zeroValue27 Try.underlying27 ⟨(by kernel_rfl), Try.sizeOf21, (by kernel_rfl), Try.sizeOf25, trivial⟩ (by kernel_rfl) (by kernel_rfl) H) (fun x13 H => ?_)
    refine ls_d (d := none) (by kernel_rfl) (by kernel_rfl) HA_2 (d_stn Try.sizeOf27 (by kernel_rfl) (by kernel_rfl) H) (fun _ h_3 w_3 H HA_3 => ?_)
    refine ls_nil ?_
    refine then_normal ?_
    refine fr_eq (b := ⟨#[x0, x1, x2, undef, undef, undef, x6, x0, x8, x1, x2, x11, x12, x13, undef, undef, undef, undef, undef, undef], []⟩) (by kernel_rfl) ?_
    refine wp_ret ?_
    refine then_ret ?_
    obtain ⟨r6, hr6, H⟩ := ld_n Try.isAgg27 Try.sizeOf27 H
    exact endR (vs := [r6]) (Try.results13) (by kernel_rfl) ⟨⟨_, (by kernel_rfl), hr6⟩, trivial⟩ HA_3 H _ (.inr rfl)
  · refine wp_skip ?_
    refine then_normal ?_
    refine fr_eq (b := ⟨#[x0, x1, x2, undef, undef, undef, x6, x0, x8, x1, x2, x11, x12, undef, undef, undef, undef, undef, undef, undef], []⟩) (by kernel_rfl) ?_
    refine wp_seq ?_
    refine lwp_list ?_
    refine ls_move (x := x0) (by kernel_rfl) (by kernel_rfl) ?_
    refine ls_move (x := x2) (by kernel_rfl) (by kernel_rfl) ?_
    refine ls_d (d := some 16) (by kernel_rfl) (by kernel_rfl) HA_2 (d_call (by kernel_rfl) (by kernel_rfl) H) (fun x16 h_4 w_4 H HA_4 => ?_)
    refine ls_move (x := x1) (by kernel_rfl) (by kernel_rfl) ?_
    refine ls_p (d := some 18) (by kernel_rfl) (by kernel_rfl) (p_ixs Try.underlying35 Try.sizeOf27 (by kernel_rfl) (by kernel_rfl) H) (fun x18 H => ?_)
    refine ls_y (d := some 19) (by kernel_rfl) (by kernel_rfl) HA_4 (y_ldn Try.isAgg27 Try.sizeOf27 (by kernel_rfl) H) (fun x19 H => ?_)
    refine ls_fr (b := ⟨#[x0, x1, x2, undef, undef, undef, x6, x0, x8, x1, x2, x11, x12, undef, x0, x2, x16, x1, x18, x19], []⟩) (by kernel_rfl) ?_
    refine ls_d (d := none) (by kernel_rfl) (by kernel_rfl) HA_4 (d_stn Try.sizeOf27 (by kernel_rfl) (by kernel_rfl) H) (fun _ h_5 w_5 H HA_5 => ?_)
    refine ls_nil ?_
    refine then_normal ?_
    refine fr_eq (b := ⟨#[x0, x1, x2, undef, undef, undef, x6, x0, x8, x1, x2, x11, x12, undef, x0, x2, x16, x1, x18, x19], []⟩) (by kernel_rfl) ?_
    refine wp_ret ?_
    obtain ⟨r6_1, hr6_1, H⟩ := ld_n Try.isAgg27 Try.sizeOf27 H
    exact endR (vs := [r6_1]) (Try.results13) (by kernel_rfl) ⟨⟨_, (by kernel_rfl), hr6_1⟩, trivial⟩ HA_5 H _ (.inr rfl)

end Go.Proofs.Ythhpieidlpjbmaa
