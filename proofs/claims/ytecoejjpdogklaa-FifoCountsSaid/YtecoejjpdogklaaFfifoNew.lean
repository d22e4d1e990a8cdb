/- The shallow reading of one function, and that the function does it. Written by a program. -/
import Derived.Test.YtecoejjpdogklaaFnC
set_option linter.unusedVariables false
namespace Go.Proofs.Ytecoejjpdogklaa
open Go Go.HW

def fifo_New_S (x0 x1 : Value) (h : Heap) (R : Value → Heap → Prop) : Prop :=
  sLt x0 (.int .i64 1) fun x6 =>
  sOr x6 (fun k =>
  sGt x0 (.int .i64 65536) fun x9 =>
  k x9) fun x10 =>
  sIf x10 (R (.pointer none) h) (sBuild #[.int .i64 0, .int .i64 0, .int .i64 0, .slice none 0 0] [(0, 1, x0), (1, 1, x1)] fun x13 =>
  sBox h x13 96 fun x14 h => 
  R x14 h)
set_option maxRecDepth 100000 in
theorem fifo_New_runs {x0 x1 : Value} {h : Heap} {R : Value → Heap → Prop} (H : fifo_New_S x0 x1 h R) : fifo_New_c x0 x1 h R := by
  unfold fifo_New_S at H
  refine runs_of (b := ⟨#[x0, x1, undef, undef, undef, undef, undef, undef, undef, undef, undef, undef, undef, undef, undef], []⟩) Try.call38 Try.func38 rfl (by kernel_rfl) (fun w0 HA => ?_)
  refine wp_seq ?_
  refine lwp_list ?_
  refine ls_assign (x := (.pointer none)) (by kernel_rfl) (by kernel_rfl) ?_
  refine ls_nil ?_
  refine then_normal ?_
  refine fr_eq (b := ⟨#[x0, x1, undef, undef, (.pointer none), undef, undef, undef, undef, undef, undef, undef, undef, undef, undef], []⟩) (by kernel_rfl) ?_
  refine wp_seq ?_
  refine wp_seq ?_
  refine lwp_list ?_
  refine ls_move (x := x0) (by kernel_rfl) (by kernel_rfl) ?_
  refine ls_p (d := some 6) (by kernel_rfl) (by kernel_rfl) (p_sLt (by kernel_rfl) (by kernel_rfl) H) (fun x6 H => ?_)
  refine ls_move (x := x6) (by kernel_rfl) (by kernel_rfl) ?_
  refine ls_or [(), (), ()] (fun K a w => ∃ (D : Nat → Value) (x10 : Value), a = ⟨#[x0, x1, undef, undef, (.pointer none), x0, x6, x6, (D 0), (D 1), x10, undef, undef, undef, undef], []⟩ ∧ At w0 w h ∧ K x10) H (fun hb H => ?_) (fun hb H => ?_) ?_
  · refine ls_move (x := x0) (by rw [hb]; kernel_rfl) (by kernel_rfl) ?_
    refine ls_p (d := some 9) (by kernel_rfl) (by rw [hb]; kernel_rfl) (p_sGt (by kernel_rfl) (by kernel_rfl) H) (fun x9 H => ?_)
    refine ls_pick_f (y := x9) (by kernel_rfl) (by rw [hb]; kernel_rfl) (by kernel_rfl) ?_
    refine ls_nil ?_
    refine then_normal ?_
    exact ⟨(fun i => ([x0, x9]).getD i undef), x9, by kernel_rfl, HA, H⟩
  · refine ls_skip (d := some 8) (by kernel_rfl) (by rw [hb]; kernel_rfl) ?_
    refine ls_skip (d := some 9) (by kernel_rfl) (by rw [hb]; kernel_rfl) ?_
    refine ls_pick_t (x := (.bool true)) (by kernel_rfl) (by rw [hb]; kernel_rfl) (by kernel_rfl) ?_
    refine ls_nil ?_
    refine then_normal ?_
    exact ⟨(fun i => ([undef, undef]).getD i undef), (.bool true), by kernel_rfl, HA, H⟩
  · rintro _ w ⟨D, x10, rfl, HA, H⟩
    refine ls_nil ?_
    refine then_normal ?_
    refine fr_eq (b := ⟨#[x0, x1, undef, undef, (.pointer none), x0, x6, x6, (D 0), (D 1), x10, undef, undef, undef, undef], []⟩) (by kernel_rfl) ?_
    refine wp_if rfl H (fun H => ?_) (fun H => ?_)
    · refine wp_seq ?_
      refine lwp_list ?_
      refine ls_assign (x := (.pointer none)) (by kernel_rfl) (by kernel_rfl) ?_
      refine ls_nil ?_
      refine then_normal ?_
      refine fr_eq (b := ⟨#[x0, x1, undef, undef, (.pointer none), x0, x6, x6, (D 0), (D 1), x10, undef, undef, undef, undef], []⟩) (by kernel_rfl) ?_
      refine wp_ret ?_
      refine then_ret ?_
      exact end1 (Try.results38) (by kernel_rfl) (by kernel_rfl) HA H _ (.inr rfl)
    · refine wp_skip ?_
      refine then_normal ?_
      refine fr_eq (b := ⟨#[x0, x1, undef, undef, (.pointer none), x0, x6, x6, (D 0), (D 1), x10, undef, undef, undef, undef], []⟩) (by kernel_rfl) ?_
      refine wp_seq ?_
      refine lwp_list ?_
      refine ls_move (x := x0) (by kernel_rfl) (by kernel_rfl) ?_
      refine ls_move (x := x1) (by kernel_rfl) (by kernel_rfl) ?_
      refine ls_p (d := some 13) (by kernel_rfl) (by kernel_rfl) (p_lit (pl := [(0, 1), (1, 1), (2, 1), (3, 1)]) Try.zeroValue96 Try.underlying96 ⟨(by kernel_rfl), Try.sizeOf3, (by kernel_rfl), Try.sizeOf3, (by kernel_rfl), Try.sizeOf3, (by kernel_rfl), Try.sizeOf94, trivial⟩ (by kernel_rfl) (by kernel_rfl) H) (fun x13 H => ?_)
      refine ls_d (d := some 14) (by kernel_rfl) (by kernel_rfl) HA (d_box (by kernel_rfl) H) (fun x14 h w_1 H HA_1 => ?_)
      refine ls_assign (x := x14) (by kernel_rfl) (by kernel_rfl) ?_
      refine ls_nil ?_
      refine then_normal ?_
      refine fr_eq (b := ⟨#[x0, x1, undef, undef, x14, x0, x6, x6, (D 0), (D 1), x10, x0, x1, x13, x14], []⟩) (by kernel_rfl) ?_
      refine wp_ret ?_
      exact end1 (Try.results38) (by kernel_rfl) (by kernel_rfl) HA_1 H _ (.inr rfl)

end Go.Proofs.Ytecoejjpdogklaa
