/- The shallow reading of one function, and that the function does it. Written by a program. -/
import Derived.Test.YtbgipcikkedloaaDoorFnC
set_option linter.unusedVariables false
namespace Go.Proofs.YtbgipcikkedloaaDoor
open Go Go.HW

def wide_Fit_l1 (R : Value → Heap → Prop) (x0 x9 : Value) (next : Value → Value → Heap → Prop) (x1_1 x10 : Value) (h : Heap) : Prop :=
  sLt x10 x9 fun x11 =>
  sIf x11 (sIxS x0 x10 1 fun x13 =>
  sLd h x13 fun x14 =>
  wide_Width_c x14 h fun x16 h_1 => 
  sMax x16 (.int .i64 0) fun x17 =>
  sGt x17 x1_1 fun x20 =>
  sIf x20 (R x10 h_1) (sSub .i64 x1_1 x17 fun x24 =>
  sAdd .i64 x10 (.int .i64 1) fun x25 =>
  next x24 x25 h_1)) (sLt x1_1 (.int .i64 0) fun x27 =>
  sIf x27 (R (.int .i64 0) h) (sLen x0 fun x29 =>
  R x29 h))
def wide_Fit_S (x0 x1 : Value) (h : Heap) (R : Value → Heap → Prop) : Prop :=
  sLen x0 fun x9 =>
  sLoop (S := Value × Value) (fun nxt s h => wide_Fit_l1 R x0 x9 (fun x1_1' x10' h => nxt (x1_1', x10') h) s.1 s.2 h) (x1, (.int .i64 0)) h
set_option maxRecDepth 100000 in
theorem wide_Fit_runs {x0 x1 : Value} {h : Heap} {R : Value → Heap → Prop} (H : wide_Fit_S x0 x1 h R) : wide_Fit_c x0 x1 h R := by
  unfold wide_Fit_S at H
  refine runs_of (b := ⟨#[x0, x1, undef, undef, undef, undef, undef, undef, undef, undef, undef, undef, undef, undef, undef, undef, undef, undef, undef, undef, undef, undef, undef, undef, undef, undef, undef, undef, undef, undef], []⟩) Tryd.call9 Tryd.func9 rfl (by kernel_rfl) (fun w0 HA => ?_)
  refine wp_seq ?_
  refine lwp_list ?_
  refine ls_assign (x := (.int .i64 0)) (by kernel_rfl) (by kernel_rfl) ?_
  refine ls_nil ?_
  refine then_normal ?_
  refine fr_eq (b := ⟨#[x0, x1, undef, undef, (.int .i64 0), undef, undef, undef, undef, undef, undef, undef, undef, undef, undef, undef, undef, undef, undef, undef, undef, undef, undef, undef, undef, undef, undef, undef, undef, undef], []⟩) (by kernel_rfl) ?_
  refine wp_seq ?_
  refine wp_seq ?_
  refine lwp_list ?_
  refine ls_move (x := x0) (by kernel_rfl) (by kernel_rfl) ?_
  refine ls_p (d := some 9) (by kernel_rfl) (by kernel_rfl) (p_len Tryd.underlying26 (by kernel_rfl) H) (fun x9 H => ?_)
  refine ls_move (x := (.int .i64 0)) (by kernel_rfl) (by kernel_rfl) ?_
  refine ls_nil ?_
  refine then_normal ?_
  refine fr_eq (b := ⟨#[x0, x1, undef, undef, (.int .i64 0), undef, undef, undef, x0, x9, (.int .i64 0), undef, undef, undef, undef, undef, undef, undef, undef, undef, undef, undef, undef, undef, undef, undef, undef, undef, undef, undef], []⟩) (by kernel_rfl) ?_
  refine wp_block ?_
  obtain ⟨I, m, H0, HB⟩ := H
  refine wp_loop (fun a w => ∃ (D : Nat → Value) (x1_1 x10 : Value) (h : Heap), a = ⟨#[x0, x1_1, undef, undef, (D 0), (D 1), (D 2), (D 3), x0, x9, x10, (D 4), (D 5), (D 6), (D 7), (D 8), (D 9), (D 10), (D 11), (D 12), (D 13), (D 14), (D 15), (D 16), (D 17), (D 18), undef, undef, undef, undef], []⟩ ∧ At w0 w h ∧ I (x1_1, x10) h) (fun a w => m ((a.tmps.getD 1 undef), (a.tmps.getD 10 undef)) w.heap) ?_ ?_
  · exact ⟨(fun i => ([(.int .i64 0), undef, undef, undef, undef, undef, undef, undef, undef, undef, undef, undef, undef, undef, undef, undef, undef, undef, undef]).getD i undef), x1, (.int .i64 0), h, by kernel_rfl, HA, H0⟩
  · rintro _ w ⟨D, x1_1, x10, h, rfl, HA, HI⟩
    have H : wide_Fit_l1 R x0 x9 (fun x1_1' x10' h' => I (x1_1', x10') h' ∧ m (x1_1', x10') h' < m (x1_1, x10) h) x1_1 x10 h := HB (x1_1, x10) h HI
    clear HB H0 HI
    unfold wide_Fit_l1 at H
    refine wp_seq ?_
    refine lwp_list ?_
    refine ls_p (d := some 11) (by kernel_rfl) (by kernel_rfl) (p_sLt (by kernel_rfl) (by kernel_rfl) H) (fun x11 H => ?_)
    refine ls_nil ?_
    refine then_normal ?_
    refine fr_eq (b := ⟨#[x0, x1_1, undef, undef, (D 0), (D 1), (D 2), (D 3), x0, x9, x10, x11, (D 5), (D 6), (D 7), (D 8), (D 9), (D 10), (D 11), (D 12), (D 13), (D 14), (D 15), (D 16), (D 17), (D 18), undef, undef, undef, undef], []⟩) (by kernel_rfl) ?_
    refine wp_seq ?_
    refine wp_if rfl H (fun H => ?_) (fun H => ?_)
    · refine wp_skip ?_
      refine then_normal ?_
      refine fr_eq (b := ⟨#[x0, x1_1, undef, undef, (D 0), (D 1), (D 2), (D 3), x0, x9, x10, x11, (D 5), (D 6), (D 7), (D 8), (D 9), (D 10), (D 11), (D 12), (D 13), (D 14), (D 15), (D 16), (D 17), (D 18), undef, undef, undef, undef], []⟩) (by kernel_rfl) ?_
      refine wp_seq ?_
      refine wp_block ?_
      refine wp_seq ?_
      refine lwp_list ?_
      refine ls_move (x := x10) (by kernel_rfl) (by kernel_rfl) ?_
      refine ls_p (d := some 13) (by kernel_rfl) (by kernel_rfl) (p_ixs Tryd.underlying26 Tryd.sizeOf21 (by kernel_rfl) (by kernel_rfl) H) (fun x13 H => ?_)
      refine ls_y (d := some 14) (by kernel_rfl) (by kernel_rfl) HA (y_ld Tryd.isAgg21 (by kernel_rfl) H) (fun x14 H => ?_)
      refine ls_assign (x := x10) (by kernel_rfl) (by kernel_rfl) ?_
      refine ls_assign (x := x14) (by kernel_rfl) (by kernel_rfl) ?_
      refine ls_nil ?_
      refine then_normal ?_
      refine fr_eq (b := ⟨#[x0, x1_1, undef, undef, (D 0), x10, x14, (D 3), x0, x9, x10, x11, x10, x13, x14, (D 8), (D 9), (D 10), (D 11), (D 12), (D 13), (D 14), (D 15), (D 16), (D 17), (D 18), undef, undef, undef, undef], []⟩) (by kernel_rfl) ?_
      refine wp_seq ?_
      refine lwp_list ?_
      refine ls_move (x := x14) (by kernel_rfl) (by kernel_rfl) ?_
      refine ls_d (d := some 16) (by kernel_rfl) (by kernel_rfl) HA (d_call (by kernel_rfl) (by kernel_rfl) H) (fun x16 h_1 w_1 H HA_1 => ?_)
      refine ls_p (d := some 17) (by kernel_rfl) (by kernel_rfl) (p_max (by kernel_rfl) (by kernel_rfl) H) (fun x17 H => ?_)
      refine ls_assign (x := x17) (by kernel_rfl) (by kernel_rfl) ?_
      refine ls_nil ?_
      refine then_normal ?_
      refine fr_eq (b := ⟨#[x0, x1_1, undef, undef, (D 0), x10, x14, x17, x0, x9, x10, x11, x10, x13, x14, x14, x16, x17, (D 11), (D 12), (D 13), (D 14), (D 15), (D 16), (D 17), (D 18), undef, undef, undef, undef], []⟩) (by kernel_rfl) ?_
      refine wp_seq ?_
      refine wp_seq ?_
      refine lwp_list ?_
      refine ls_move (x := x17) (by kernel_rfl) (by kernel_rfl) ?_
      refine ls_move (x := x1_1) (by kernel_rfl) (by kernel_rfl) ?_
      refine ls_p (d := some 20) (by kernel_rfl) (by kernel_rfl) (p_sGt (by kernel_rfl) (by kernel_rfl) H) (fun x20 H => ?_)
      refine ls_nil ?_
      refine then_normal ?_
      refine fr_eq (b := ⟨#[x0, x1_1, undef, undef, (D 0), x10, x14, x17, x0, x9, x10, x11, x10, x13, x14, x14, x16, x17, x17, x1_1, x20, (D 14), (D 15), (D 16), (D 17), (D 18), undef, undef, undef, undef], []⟩) (by kernel_rfl) ?_
      refine wp_if rfl H (fun H => ?_) (fun H => ?_)
      · refine wp_seq ?_
        refine lwp_list ?_
        refine ls_move (x := x10) (by kernel_rfl) (by kernel_rfl) ?_
        refine ls_assign (x := x10) (by kernel_rfl) (by kernel_rfl) ?_
        refine ls_nil ?_
        refine then_normal ?_
        refine fr_eq (b := ⟨#[x0, x1_1, undef, undef, x10, x10, x14, x17, x0, x9, x10, x11, x10, x13, x14, x14, x16, x17, x17, x1_1, x20, x10, (D 15), (D 16), (D 17), (D 18), undef, undef, undef, undef], []⟩) (by kernel_rfl) ?_
        refine wp_ret ?_
        refine then_ret ?_
        refine block_ret ?_
        refine then_ret ?_
        refine then_ret ?_
        refine block_ret ?_
        refine then_ret ?_
        exact end1 (Tryd.results9) (by kernel_rfl) (by kernel_rfl) HA_1 H _ (.inr rfl)
      · refine wp_skip ?_
        refine then_normal ?_
        refine fr_eq (b := ⟨#[x0, x1_1, undef, undef, (D 0), x10, x14, x17, x0, x9, x10, x11, x10, x13, x14, x14, x16, x17, x17, x1_1, x20, (D 14), (D 15), (D 16), (D 17), (D 18), undef, undef, undef, undef], []⟩) (by kernel_rfl) ?_
        refine lwp_list ?_
        refine ls_move (x := x1_1) (by kernel_rfl) (by kernel_rfl) ?_
        refine ls_move (x := x17) (by kernel_rfl) (by kernel_rfl) ?_
        refine ls_p (d := some 24) (by kernel_rfl) (by kernel_rfl) (p_sub (by kernel_rfl) (by kernel_rfl) H) (fun x24 H => ?_)
        refine ls_assign (x := x24) (by kernel_rfl) (by kernel_rfl) ?_
        refine ls_nil ?_
        refine block_normal ?_
        refine then_normal ?_
        refine fr_eq (b := ⟨#[x0, x24, undef, undef, (D 0), x10, x14, x17, x0, x9, x10, x11, x10, x13, x14, x14, x16, x17, x17, x1_1, x20, (D 14), x1_1, x17, x24, (D 18), undef, undef, undef, undef], []⟩) (by kernel_rfl) ?_
        refine lwp_list ?_
        refine ls_p (d := some 25) (by kernel_rfl) (by kernel_rfl) (p_add (by kernel_rfl) (by kernel_rfl) H) (fun x25 H => ?_)
        refine ls_move (x := x25) (by kernel_rfl) (by kernel_rfl) ?_
        refine ls_nil ?_
        exact ⟨⟨(fun i => ([(D 0), x10, x14, x17, x11, x10, x13, x14, x14, x16, x17, x17, x1_1, x20, (D 14), x1_1, x17, x24, x25]).getD i undef), x24, x25, h_1, by kernel_rfl, HA_1, H.1⟩, loop_lt HA_1.heap HA.heap (by kernel_rfl) (by kernel_rfl) H.2⟩
    · refine wp_exit ?_
      refine then_exit ?_
      refine then_exit ?_
      refine block_exit ?_
      refine then_normal ?_
      refine fr_eq (b := ⟨#[x0, x1_1, undef, undef, (D 0), (D 1), (D 2), (D 3), x0, x9, x10, x11, (D 5), (D 6), (D 7), (D 8), (D 9), (D 10), (D 11), (D 12), (D 13), (D 14), (D 15), (D 16), (D 17), (D 18), undef, undef, undef, undef], []⟩) (by kernel_rfl) ?_
      refine wp_seq ?_
      refine wp_seq ?_
      refine lwp_list ?_
      refine ls_move (x := x1_1) (by kernel_rfl) (by kernel_rfl) ?_
      refine ls_p (d := some 27) (by kernel_rfl) (by kernel_rfl) (p_sLt (by kernel_rfl) (by kernel_rfl) H) (fun x27 H => ?_)
      refine ls_nil ?_
      refine then_normal ?_
      refine fr_eq (b := ⟨#[x0, x1_1, undef, undef, (D 0), (D 1), (D 2), (D 3), x0, x9, x10, x11, (D 5), (D 6), (D 7), (D 8), (D 9), (D 10), (D 11), (D 12), (D 13), (D 14), (D 15), (D 16), (D 17), (D 18), x1_1, x27, undef, undef], []⟩) (by kernel_rfl) ?_
      refine wp_if rfl H (fun H => ?_) (fun H => ?_)
      · refine wp_seq ?_
        refine lwp_list ?_
        refine ls_assign (x := (.int .i64 0)) (by kernel_rfl) (by kernel_rfl) ?_
        refine ls_nil ?_
        refine then_normal ?_
        refine fr_eq (b := ⟨#[x0, x1_1, undef, undef, (.int .i64 0), (D 1), (D 2), (D 3), x0, x9, x10, x11, (D 5), (D 6), (D 7), (D 8), (D 9), (D 10), (D 11), (D 12), (D 13), (D 14), (D 15), (D 16), (D 17), (D 18), x1_1, x27, undef, undef], []⟩) (by kernel_rfl) ?_
        refine wp_ret ?_
        refine then_ret ?_
        exact end1 (Tryd.results9) (by kernel_rfl) (by kernel_rfl) HA H _ (.inr rfl)
      · refine wp_skip ?_
        refine then_normal ?_
        refine fr_eq (b := ⟨#[x0, x1_1, undef, undef, (D 0), (D 1), (D 2), (D 3), x0, x9, x10, x11, (D 5), (D 6), (D 7), (D 8), (D 9), (D 10), (D 11), (D 12), (D 13), (D 14), (D 15), (D 16), (D 17), (D 18), x1_1, x27, undef, undef], []⟩) (by kernel_rfl) ?_
        refine wp_seq ?_
        refine lwp_list ?_
        refine ls_move (x := x0) (by kernel_rfl) (by kernel_rfl) ?_
        refine ls_p (d := some 29) (by kernel_rfl) (by kernel_rfl) (p_len Tryd.underlying26 (by kernel_rfl) H) (fun x29 H => ?_)
        refine ls_assign (x := x29) (by kernel_rfl) (by kernel_rfl) ?_
        refine ls_nil ?_
        refine then_normal ?_
        refine fr_eq (b := ⟨#[x0, x1_1, undef, undef, x29, (D 1), (D 2), (D 3), x0, x9, x10, x11, (D 5), (D 6), (D 7), (D 8), (D 9), (D 10), (D 11), (D 12), (D 13), (D 14), (D 15), (D 16), (D 17), (D 18), x1_1, x27, x0, x29], []⟩) (by kernel_rfl) ?_
        refine wp_ret ?_
        exact end1 (Tryd.results9) (by kernel_rfl) (by kernel_rfl) HA H _ (.inr rfl)

end Go.Proofs.YtbgipcikkedloaaDoor
