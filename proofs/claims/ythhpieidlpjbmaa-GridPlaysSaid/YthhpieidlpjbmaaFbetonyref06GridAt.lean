/- The shallow reading of one function, and that the function does it. Written by a program. -/
import Derived.Test.YthhpieidlpjbmaaFnC
set_option linter.unusedVariables false
namespace Go.Proofs.Ythhpieidlpjbmaa
open Go Go.HW

def betonyref06_Grid_At_S (x0 x1 x2 : Value) (h : Heap) (R : Value → Heap → Prop) : Prop :=
  sBox h x0 37 fun x3 h => 
  sNew h #[.int .i32 0, .int .i64 0, .int .i64 0, .int .i64 0] 27 fun x6 h_1 => 
  sLdN h_1 x3 3 fun x7 =>
  betonyref06_Grid_In_c x7 x1 x2 h_1 fun x10 h_2 => 
  sNot x10 fun x11 =>
  sIf x11 (sBuild #[.int .i32 0, .int .i64 0, .int .i64 0, .int .i64 0] [] fun x12 =>
  sStN h_2 x6 x12 4 fun h_3 => 
  sLdN h_3 x6 4 fun r6 =>
  R r6 h_3) (sOff x3 2 fun x13 =>
  sLd h_2 x13 fun x14 =>
  sOff x3 0 fun x16 =>
  sLd h_2 x16 fun x17 =>
  sMul .i64 x2 x17 fun x18 =>
  sAdd .i64 x18 x1 fun x20 =>
  sIxS x14 x20 4 fun x21 =>
  sLdN h_2 x21 4 fun x22 =>
  sStN h_2 x6 x22 4 fun h_4 => 
  sLdN h_4 x6 4 fun r6_1 =>
  R r6_1 h_4)
set_option maxRecDepth 100000 in
theorem betonyref06_Grid_At_runs {x0 x1 x2 : Value} {h : Heap} {R : Value → Heap → Prop} (H : betonyref06_Grid_At_S x0 x1 x2 h R) : betonyref06_Grid_At_c x0 x1 x2 h R := by
  unfold betonyref06_Grid_At_S at H
  refine runs_of (b := ⟨#[x0, x1, x2, undef, undef, undef, undef, undef, undef, undef, undef, undef, undef, undef, undef, undef, undef, undef, undef, undef, undef, undef, undef], []⟩) Try.call25 Try.func25 rfl (by kernel_rfl) (fun w0 HA => ?_)
  refine wp_seq ?_
  refine lwp_list ?_
  refine ls_d (d := some 3) (by kernel_rfl) (by kernel_rfl) HA (d_box (by kernel_rfl) H) (fun x3 h w H HA => ?_)
  refine ls_d (d := some 6) (by kernel_rfl) (by kernel_rfl) HA (d_alloc Try.zeroValue27 H) (fun x6 h_1 w_1 H HA_1 => ?_)
  refine ls_nil ?_
  refine then_normal ?_
  refine fr_eq (b := ⟨#[x0, x1, x2, x3, undef, undef, x6, undef, undef, undef, undef, undef, undef, undef, undef, undef, undef, undef, undef, undef, undef, undef, undef], []⟩) (by kernel_rfl) ?_
  refine wp_seq ?_
  refine wp_seq ?_
  refine lwp_list ?_
  refine ls_y (d := some 7) (by kernel_rfl) (by kernel_rfl) HA_1 (y_ldn Try.isAgg37 Try.sizeOf37 (by kernel_rfl) H) (fun x7 H => ?_)
  refine ls_move (x := x1) (by kernel_rfl) (by kernel_rfl) ?_
  refine ls_move (x := x2) (by kernel_rfl) (by kernel_rfl) ?_
  refine ls_d (d := some 10) (by kernel_rfl) (by kernel_rfl) HA_1 (d_call (by kernel_rfl) (by kernel_rfl) H) (fun x10 h_2 w_2 H HA_2 => ?_)
  refine ls_p (d := some 11) (by kernel_rfl) (by kernel_rfl) (p_not (by kernel_rfl) H) (fun x11 H => ?_)
  refine ls_nil ?_
  refine then_normal ?_
  refine fr_eq (b := ⟨#[x0, x1, x2, x3, undef, undef, x6, x7, x1, x2, x10, x11, undef, undef, undef, undef, undef, undef, undef, undef, undef, undef, undef], []⟩) (by kernel_rfl) ?_
  refine wp_if rfl H (fun H => ?_) (fun H => ?_)
  · refine wp_seq ?_
    refine lwp_list ?_
    refine ls_p (d := some 12) (by kernel_rfl) (by kernel_rfl) (p_lit (pl := [(0, 1), (1, 3)]) Try.zeroValue27 Try.underlying27 ⟨(by kernel_rfl), Try.sizeOf21, (by kernel_rfl), Try.sizeOf25, trivial⟩ (by kernel_rfl) (by kernel_rfl) H) (fun x12 H => ?_)
    refine ls_d (d := none) (by kernel_rfl) (by kernel_rfl) HA_2 (d_stn Try.sizeOf27 (by kernel_rfl) (by kernel_rfl) H) (fun _ h_3 w_3 H HA_3 => ?_)
    refine ls_nil ?_
    refine then_normal ?_
    refine fr_eq (b := ⟨#[x0, x1, x2, x3, undef, undef, x6, x7, x1, x2, x10, x11, x12, undef, undef, undef, undef, undef, undef, undef, undef, undef, undef], []⟩) (by kernel_rfl) ?_
    refine wp_ret ?_
    refine then_ret ?_
    obtain ⟨r6, hr6, H⟩ := ld_n Try.isAgg27 Try.sizeOf27 H
    exact endR (vs := [r6]) (Try.results25) (by kernel_rfl) ⟨⟨_, (by kernel_rfl), hr6⟩, trivial⟩ HA_3 H _ (.inr rfl)
  · refine wp_skip ?_
    refine then_normal ?_
    refine fr_eq (b := ⟨#[x0, x1, x2, x3, undef, undef, x6, x7, x1, x2, x10, x11, undef, undef, undef, undef, undef, undef, undef, undef, undef, undef, undef], []⟩) (by kernel_rfl) ?_
    refine wp_seq ?_
    refine lwp_list ?_
    refine ls_p (d := some 13) (by kernel_rfl) (by kernel_rfl) (p_off Try.underlying37 rfl (fun w => ⟨_, Try.sizeOf35 w⟩) rfl (by kernel_rfl) H) (fun x13 H => ?_)
    refine ls_y (d := some 14) (by kernel_rfl) (by kernel_rfl) HA_2 (y_ld Try.isAgg35 (by kernel_rfl) H) (fun x14 H => ?_)
    refine ls_move (x := x2) (by kernel_rfl) (by kernel_rfl) ?_
    refine ls_p (d := some 16) (by kernel_rfl) (by kernel_rfl) (p_off Try.underlying37 rfl (fun w => ⟨_, Try.sizeOf3 w⟩) rfl (by kernel_rfl) H) (fun x16 H => ?_)
    refine ls_y (d := some 17) (by kernel_rfl) (by kernel_rfl) HA_2 (y_ld Try.isAgg3 (by kernel_rfl) H) (fun x17 H => ?_)
    refine ls_p (d := some 18) (by kernel_rfl) (by kernel_rfl) (p_mul (by kernel_rfl) (by kernel_rfl) H) (fun x18 H => ?_)
    refine ls_fr (b := ⟨#[x0, x1, x2, x3, undef, undef, x6, x7, x1, x2, x10, x11, undef, x13, x14, x2, x16, x17, x18, undef, undef, undef, undef], []⟩) (by kernel_rfl) ?_
    refine ls_move (x := x1) (by kernel_rfl) (by kernel_rfl) ?_
    refine ls_p (d := some 20) (by kernel_rfl) (by kernel_rfl) (p_add (by kernel_rfl) (by kernel_rfl) H) (fun x20 H => ?_)
    refine ls_p (d := some 21) (by kernel_rfl) (by kernel_rfl) (p_ixs Try.underlying35 Try.sizeOf27 (by kernel_rfl) (by kernel_rfl) H) (fun x21 H => ?_)
    refine ls_y (d := some 22) (by kernel_rfl) (by kernel_rfl) HA_2 (y_ldn Try.isAgg27 Try.sizeOf27 (by kernel_rfl) H) (fun x22 H => ?_)
    refine ls_d (d := none) (by kernel_rfl) (by kernel_rfl) HA_2 (d_stn Try.sizeOf27 (by kernel_rfl) (by kernel_rfl) H) (fun _ h_4 w_4 H HA_4 => ?_)
    refine ls_nil ?_
    refine then_normal ?_
    refine fr_eq (b := ⟨#[x0, x1, x2, x3, undef, undef, x6, x7, x1, x2, x10, x11, undef, x13, x14, x2, x16, x17, x18, x1, x20, x21, x22], []⟩) (by kernel_rfl) ?_
    refine wp_ret ?_
    obtain ⟨r6_1, hr6_1, H⟩ := ld_n Try.isAgg27 Try.sizeOf27 H
    exact endR (vs := [r6_1]) (Try.results25) (by kernel_rfl) ⟨⟨_, (by kernel_rfl), hr6_1⟩, trivial⟩ HA_4 H _ (.inr rfl)

end Go.Proofs.Ythhpieidlpjbmaa
