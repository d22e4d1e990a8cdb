/- The shallow reading of one function, and that the function does it. Written by a program. -/
import Derived.Test.YtbgipcikkedloaaDoorFnC
set_option linter.unusedVariables false
namespace Go.Proofs.YtbgipcikkedloaaDoor
open Go Go.HW

def wide_Text_l1 (R : Value → Heap → Prop) (x0 x7 : Value) (next : Value → Value → Heap → Prop) (x3 x8 : Value) (h : Heap) : Prop :=
  sLt x8 x7 fun x9 =>
  sIf x9 (sIxS x0 x8 1 fun x10 =>
  sLd h x10 fun x11 =>
  wide_Width_c x11 h fun x14 h_1 => 
  sMax x14 (.int .i64 0) fun x15 =>
  sAdd .i64 x3 x15 fun x16 =>
  sAdd .i64 x8 (.int .i64 1) fun x17 =>
  next x16 x17 h_1) (R x3 h)
def wide_Text_S (x0 : Value) (h : Heap) (R : Value → Heap → Prop) : Prop :=
  sLen x0 fun x7 =>
  sLoop (S := Value × Value) (fun nxt s h => wide_Text_l1 R x0 x7 (fun x3' x8' h => nxt (x3', x8') h) s.1 s.2 h) ((.int .i64 0), (.int .i64 0)) h
set_option maxRecDepth 100000 in
theorem wide_Text_runs {x0 : Value} {h : Heap} {R : Value → Heap → Prop} (H : wide_Text_S x0 h R) : wide_Text_c x0 h R := by
  unfold wide_Text_S at H
  refine runs_of (b := ⟨#[x0, undef, undef, undef, undef, undef, undef, undef, undef, undef, undef, undef, undef, undef, undef, undef, undef, undef, undef], []⟩) Tryd.call10 Tryd.func10 rfl (by kernel_rfl) (fun w0 HA => ?_)
  refine wp_seq ?_
  refine lwp_list ?_
  refine ls_assign (x := (.int .i64 0)) (by kernel_rfl) (by kernel_rfl) ?_
  refine ls_nil ?_
  refine then_normal ?_
  refine fr_eq (b := ⟨#[x0, undef, (.int .i64 0), undef, undef, undef, undef, undef, undef, undef, undef, undef, undef, undef, undef, undef, undef, undef, undef], []⟩) (by kernel_rfl) ?_
  refine wp_seq ?_
  refine lwp_list ?_
  refine ls_assign (x := (.int .i64 0)) (by kernel_rfl) (by kernel_rfl) ?_
  refine ls_nil ?_
  refine then_normal ?_
  refine fr_eq (b := ⟨#[x0, undef, (.int .i64 0), (.int .i64 0), undef, undef, undef, undef, undef, undef, undef, undef, undef, undef, undef, undef, undef, undef, undef], []⟩) (by kernel_rfl) ?_
  refine wp_seq ?_
  refine wp_seq ?_
  refine lwp_list ?_
  refine ls_move (x := x0) (by kernel_rfl) (by kernel_rfl) ?_
  refine ls_p (d := some 7) (by kernel_rfl) (by kernel_rfl) (p_len Tryd.underlying26 (by kernel_rfl) H) (fun x7 H => ?_)
  refine ls_move (x := (.int .i64 0)) (by kernel_rfl) (by kernel_rfl) ?_
  refine ls_nil ?_
  refine then_normal ?_
  refine fr_eq (b := ⟨#[x0, undef, (.int .i64 0), (.int .i64 0), undef, undef, x0, x7, (.int .i64 0), undef, undef, undef, undef, undef, undef, undef, undef, undef, undef], []⟩) (by kernel_rfl) ?_
  refine wp_block ?_
  obtain ⟨I, m, H0, HB⟩ := H
  refine wp_loop (fun a w => ∃ (D : Nat → Value) (x3 x8 : Value) (h : Heap), a = ⟨#[x0, undef, (.int .i64 0), x3, undef, (D 0), x0, x7, x8, (D 1), (D 2), (D 3), (D 4), (D 5), (D 6), (D 7), (D 8), (D 9), undef], []⟩ ∧ At w0 w h ∧ I (x3, x8) h) (fun a w => m ((a.tmps.getD 3 undef), (a.tmps.getD 8 undef)) w.heap) ?_ ?_
  · exact ⟨(fun i => ([undef, undef, undef, undef, undef, undef, undef, undef, undef, undef]).getD i undef), (.int .i64 0), (.int .i64 0), h, by kernel_rfl, HA, H0⟩
  · rintro _ w ⟨D, x3, x8, h, rfl, HA, HI⟩
    have H : wide_Text_l1 R x0 x7 (fun x3' x8' h' => I (x3', x8') h' ∧ m (x3', x8') h' < m (x3, x8) h) x3 x8 h := HB (x3, x8) h HI
    clear HB H0 HI
    unfold wide_Text_l1 at H
    refine wp_seq ?_
    refine lwp_list ?_
    refine ls_p (d := some 9) (by kernel_rfl) (by kernel_rfl) (p_sLt (by kernel_rfl) (by kernel_rfl) H) (fun x9 H => ?_)
    refine ls_nil ?_
    refine then_normal ?_
    refine fr_eq (b := ⟨#[x0, undef, (.int .i64 0), x3, undef, (D 0), x0, x7, x8, x9, (D 2), (D 3), (D 4), (D 5), (D 6), (D 7), (D 8), (D 9), undef], []⟩) (by kernel_rfl) ?_
    refine wp_seq ?_
    refine wp_if rfl H (fun H => ?_) (fun H => ?_)
    · refine wp_skip ?_
      refine then_normal ?_
      refine fr_eq (b := ⟨#[x0, undef, (.int .i64 0), x3, undef, (D 0), x0, x7, x8, x9, (D 2), (D 3), (D 4), (D 5), (D 6), (D 7), (D 8), (D 9), undef], []⟩) (by kernel_rfl) ?_
      refine wp_seq ?_
      refine wp_block ?_
      refine wp_seq ?_
      refine lwp_list ?_
      refine ls_p (d := some 10) (by kernel_rfl) (by kernel_rfl) (p_ixs Tryd.underlying26 Tryd.sizeOf21 (by kernel_rfl) (by kernel_rfl) H) (fun x10 H => ?_)
      refine ls_y (d := some 11) (by kernel_rfl) (by kernel_rfl) HA (y_ld Tryd.isAgg21 (by kernel_rfl) H) (fun x11 H => ?_)
      refine ls_assign (x := x11) (by kernel_rfl) (by kernel_rfl) ?_
      refine ls_nil ?_
      refine then_normal ?_
      refine fr_eq (b := ⟨#[x0, undef, (.int .i64 0), x3, undef, x11, x0, x7, x8, x9, x10, x11, (D 4), (D 5), (D 6), (D 7), (D 8), (D 9), undef], []⟩) (by kernel_rfl) ?_
      refine lwp_list ?_
      refine ls_move (x := x3) (by kernel_rfl) (by kernel_rfl) ?_
      refine ls_move (x := x11) (by kernel_rfl) (by kernel_rfl) ?_
      refine ls_d (d := some 14) (by kernel_rfl) (by kernel_rfl) HA (d_call (by kernel_rfl) (by kernel_rfl) H) (fun x14 h_1 w_1 H HA_1 => ?_)
      refine ls_p (d := some 15) (by kernel_rfl) (by kernel_rfl) (p_max (by kernel_rfl) (by kernel_rfl) H) (fun x15 H => ?_)
      refine ls_p (d := some 16) (by kernel_rfl) (by kernel_rfl) (p_add (by kernel_rfl) (by kernel_rfl) H) (fun x16 H => ?_)
      refine ls_assign (x := x16) (by kernel_rfl) (by kernel_rfl) ?_
      refine ls_nil ?_
      refine block_normal ?_
      refine then_normal ?_
      refine fr_eq (b := ⟨#[x0, undef, (.int .i64 0), x16, undef, x11, x0, x7, x8, x9, x10, x11, x3, x11, x14, x15, x16, (D 9), undef], []⟩) (by kernel_rfl) ?_
      refine lwp_list ?_
      refine ls_p (d := some 17) (by kernel_rfl) (by kernel_rfl) (p_add (by kernel_rfl) (by kernel_rfl) H) (fun x17 H => ?_)
      refine ls_move (x := x17) (by kernel_rfl) (by kernel_rfl) ?_
      refine ls_nil ?_
      exact ⟨⟨(fun i => ([x11, x9, x10, x11, x3, x11, x14, x15, x16, x17]).getD i undef), x16, x17, h_1, by kernel_rfl, HA_1, H.1⟩, loop_lt HA_1.heap HA.heap (by kernel_rfl) (by kernel_rfl) H.2⟩
    · refine wp_exit ?_
      refine then_exit ?_
      refine then_exit ?_
      refine block_exit ?_
      refine then_normal ?_
      refine fr_eq (b := ⟨#[x0, undef, (.int .i64 0), x3, undef, (D 0), x0, x7, x8, x9, (D 2), (D 3), (D 4), (D 5), (D 6), (D 7), (D 8), (D 9), undef], []⟩) (by kernel_rfl) ?_
      refine wp_seq ?_
      refine lwp_list ?_
      refine ls_move (x := x3) (by kernel_rfl) (by kernel_rfl) ?_
      refine ls_assign (x := x3) (by kernel_rfl) (by kernel_rfl) ?_
      refine ls_nil ?_
      refine then_normal ?_
      refine fr_eq (b := ⟨#[x0, undef, x3, x3, undef, (D 0), x0, x7, x8, x9, (D 2), (D 3), (D 4), (D 5), (D 6), (D 7), (D 8), (D 9), x3], []⟩) (by kernel_rfl) ?_
      refine wp_ret ?_
      exact end1 (Tryd.results10) (by kernel_rfl) (by kernel_rfl) HA H _ (.inr rfl)

end Go.Proofs.YtbgipcikkedloaaDoor
