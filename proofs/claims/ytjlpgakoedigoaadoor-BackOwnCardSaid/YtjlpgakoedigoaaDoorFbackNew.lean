/- The shallow reading of one function, and that the function does it. Written by a program. -/
import Derived.Test.YtjlpgakoedigoaaDoorFnC
set_option linter.unusedVariables false
namespace Go.Proofs.YtjlpgakoedigoaaDoor
open Go Go.HW

def back_New_S (x0 : Value) (h : Heap) (R : Value → Heap → Prop) : Prop :=
  sLt x0 (.int .i64 0) fun x4 =>
  sOr x4 (fun k =>
  sGt x0 (.int .i64 10000) fun x7 =>
  k x7) fun x8 =>
  sIf x8 (R (.pointer none) h) (sBuild #[.slice none 0 0, .int .i64 0, .int .i64 0, .int .i64 0, .int .i64 0] [(1, 1, x0)] fun x10 =>
  sBox h x10 56 fun x11 h => 
  R x11 h)
set_option maxRecDepth 100000 in
theorem back_New_runs {x0 : Value} {h : Heap} {R : Value → Heap → Prop} (H : back_New_S x0 h R) : back_New_c x0 h R := by
  unfold back_New_S at H
  refine runs_of (b := ⟨#[x0, undef, undef, undef, undef, undef, undef, undef, undef, undef, undef, undef], []⟩) Tryd.call10 Tryd.func10 rfl (by kernel_rfl) (fun w0 HA => ?_)
  refine wp_seq ?_
  refine lwp_list ?_
  refine ls_assign (x := (.pointer none)) (by kernel_rfl) (by kernel_rfl) ?_
  refine ls_nil ?_
  refine then_normal ?_
  refine fr_eq (b := ⟨#[x0, undef, (.pointer none), undef, undef, undef, undef, undef, undef, undef, undef, undef], []⟩) (by kernel_rfl) ?_
  refine wp_seq ?_
  refine wp_seq ?_
  refine lwp_list ?_
  refine ls_move (x := x0) (by kernel_rfl) (by kernel_rfl) ?_
  refine ls_p (d := some 4) (by kernel_rfl) (by kernel_rfl) (p_sLt (by kernel_rfl) (by kernel_rfl) H) (fun x4 H => ?_)
  refine ls_move (x := x4) (by kernel_rfl) (by kernel_rfl) ?_
  refine ls_or [(), (), ()] (fun K a w => ∃ (D : Nat → Value) (x8 : Value), a = ⟨#[x0, undef, (.pointer none), x0, x4, x4, (D 0), (D 1), x8, undef, undef, undef], []⟩ ∧ At w0 w h ∧ K x8) H (fun hb H => ?_) (fun hb H => ?_) ?_
  · refine ls_move (x := x0) (by rw [hb]; kernel_rfl) (by kernel_rfl) ?_
    refine ls_p (d := some 7) (by kernel_rfl) (by rw [hb]; kernel_rfl) (p_sGt (by kernel_rfl) (by kernel_rfl) H) (fun x7 H => ?_)
    refine ls_pick_f (y := x7) (by kernel_rfl) (by rw [hb]; kernel_rfl) (by kernel_rfl) ?_
    refine ls_nil ?_
    refine then_normal ?_
    exact ⟨(fun i => ([x0, x7]).getD i undef), x7, by kernel_rfl, HA, H⟩
  · refine ls_skip (d := some 6) (by kernel_rfl) (by rw [hb]; kernel_rfl) ?_
    refine ls_skip (d := some 7) (by kernel_rfl) (by rw [hb]; kernel_rfl) ?_
    refine ls_pick_t (x := (.bool true)) (by kernel_rfl) (by rw [hb]; kernel_rfl) (by kernel_rfl) ?_
    refine ls_nil ?_
    refine then_normal ?_
    exact ⟨(fun i => ([undef, undef]).getD i undef), (.bool true), by kernel_rfl, HA, H⟩
  · rintro _ w ⟨D, x8, rfl, HA, H⟩
    refine ls_nil ?_
    refine then_normal ?_
    refine fr_eq (b := ⟨#[x0, undef, (.pointer none), x0, x4, x4, (D 0), (D 1), x8, undef, undef, undef], []⟩) (by kernel_rfl) ?_
    refine wp_if rfl H (fun H => ?_) (fun H => ?_)
    · refine wp_seq ?_
      refine lwp_list ?_
      refine ls_assign (x := (.pointer none)) (by kernel_rfl) (by kernel_rfl) ?_
      refine ls_nil ?_
      refine then_normal ?_
      refine fr_eq (b := ⟨#[x0, undef, (.pointer none), x0, x4, x4, (D 0), (D 1), x8, undef, undef, undef], []⟩) (by kernel_rfl) ?_
      refine wp_ret ?_
      refine then_ret ?_
      exact end1 (Tryd.results10) (by kernel_rfl) (by kernel_rfl) HA H _ (.inr rfl)
    · refine wp_skip ?_
      refine then_normal ?_
      refine fr_eq (b := ⟨#[x0, undef, (.pointer none), x0, x4, x4, (D 0), (D 1), x8, undef, undef, undef], []⟩) (by kernel_rfl) ?_
      refine wp_seq ?_
      refine lwp_list ?_
      refine ls_move (x := x0) (by kernel_rfl) (by kernel_rfl) ?_
      refine ls_p (d := some 10) (by kernel_rfl) (by kernel_rfl) (p_lit (pl := [(0, 1), (1, 1), (2, 1), (3, 1), (4, 1)]) Tryd.zeroValue56 Tryd.underlying56 ⟨(by kernel_rfl), Tryd.sizeOf39, (by kernel_rfl), Tryd.sizeOf3, (by kernel_rfl), Tryd.sizeOf3, (by kernel_rfl), Tryd.sizeOf3, (by kernel_rfl), Tryd.sizeOf3, trivial⟩ (by kernel_rfl) (by kernel_rfl) H) (fun x10 H => ?_)
      refine ls_d (d := some 11) (by kernel_rfl) (by kernel_rfl) HA (d_box (by kernel_rfl) H) (fun x11 h w_1 H HA_1 => ?_)
      refine ls_assign (x := x11) (by kernel_rfl) (by kernel_rfl) ?_
      refine ls_nil ?_
      refine then_normal ?_
      refine fr_eq (b := ⟨#[x0, undef, x11, x0, x4, x4, (D 0), (D 1), x8, x0, x10, x11], []⟩) (by kernel_rfl) ?_
      refine wp_ret ?_
      exact end1 (Tryd.results10) (by kernel_rfl) (by kernel_rfl) HA_1 H _ (.inr rfl)

end Go.Proofs.YtjlpgakoedigoaaDoor
