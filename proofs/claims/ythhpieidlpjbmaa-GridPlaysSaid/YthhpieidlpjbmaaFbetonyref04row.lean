/- The shallow reading of one function, and that the function does it. Written by a program. -/
import Derived.Test.YthhpieidlpjbmaaFnC
set_option linter.unusedVariables false
namespace Go.Proofs.Ythhpieidlpjbmaa
open Go Go.HW

def betonyref04_row_S (x0 x1 x2 : Value) (h : Heap) (R : Value → Heap → Prop) : Prop :=
  sGe x2 (.int .i64 1) fun x8 =>
  sAnd x8 (fun k_1 =>
  sGe x0 x1 fun x12 =>
  k_1 x12) fun x13 =>
  sAnd x13 (fun k =>
  sSub .i64 x0 x1 fun x17 =>
  sLt x17 x2 fun x19 =>
  k x19) fun x20 =>
  R x20 h
set_option maxRecDepth 100000 in
theorem betonyref04_row_runs {x0 x1 x2 : Value} {h : Heap} {R : Value → Heap → Prop} (H : betonyref04_row_S x0 x1 x2 h R) : betonyref04_row_c x0 x1 x2 h R := by
  unfold betonyref04_row_S at H
  refine runs_of (b := ⟨#[x0, x1, x2, undef, undef, undef, undef, undef, undef, undef, undef, undef, undef, undef, undef, undef, undef, undef, undef, undef, undef], []⟩) Try.call55 Try.func55 rfl (by kernel_rfl) (fun w0 HA => ?_)
  refine wp_seq ?_
  refine lwp_list ?_
  refine ls_assign (x := (.bool false)) (by kernel_rfl) (by kernel_rfl) ?_
  refine ls_nil ?_
  refine then_normal ?_
  refine fr_eq (b := ⟨#[x0, x1, x2, undef, undef, undef, (.bool false), undef, undef, undef, undef, undef, undef, undef, undef, undef, undef, undef, undef, undef, undef], []⟩) (by kernel_rfl) ?_
  refine wp_seq ?_
  refine lwp_list ?_
  refine ls_move (x := x2) (by kernel_rfl) (by kernel_rfl) ?_
  refine ls_p (d := some 8) (by kernel_rfl) (by kernel_rfl) (p_sGe (by kernel_rfl) (by kernel_rfl) H) (fun x8 H => ?_)
  refine ls_move (x := x8) (by kernel_rfl) (by kernel_rfl) ?_
  refine ls_and [(), (), (), ()] (fun K a w => ∃ (D : Nat → Value) (x13 : Value), a = ⟨#[x0, x1, x2, undef, undef, undef, (.bool false), x2, x8, x8, (D 0), (D 1), (D 2), x13, undef, undef, undef, undef, undef, undef, undef], []⟩ ∧ At w0 w h ∧ K x13) H (fun hb_1 H => ?_) (fun hb_1 H => ?_) ?_
  · refine ls_move (x := x0) (by rw [hb_1]; kernel_rfl) (by kernel_rfl) ?_
    refine ls_move (x := x1) (by rw [hb_1]; kernel_rfl) (by kernel_rfl) ?_
    refine ls_p (d := some 12) (by kernel_rfl) (by rw [hb_1]; kernel_rfl) (p_sGe (by kernel_rfl) (by kernel_rfl) H) (fun x12 H => ?_)
    refine ls_fr (b := ⟨#[x0, x1, x2, undef, undef, undef, (.bool false), x2, x8, x8, x0, x1, x12, undef, undef, undef, undef, undef, undef, undef, undef], []⟩) (by kernel_rfl) ?_
    refine ls_pick_t (x := x12) (by kernel_rfl) (by rw [hb_1]; kernel_rfl) (by kernel_rfl) ?_
    refine ls_nil ?_
    refine then_normal ?_
    exact ⟨(fun i => ([x0, x1, x12]).getD i undef), x12, by kernel_rfl, HA, H⟩
  · refine ls_skip (d := some 10) (by kernel_rfl) (by rw [hb_1]; kernel_rfl) ?_
    refine ls_skip (d := some 11) (by kernel_rfl) (by rw [hb_1]; kernel_rfl) ?_
    refine ls_skip (d := some 12) (by kernel_rfl) (by rw [hb_1]; kernel_rfl) ?_
    refine ls_fr (b := ⟨#[x0, x1, x2, undef, undef, undef, (.bool false), x2, x8, x8, undef, undef, undef, undef, undef, undef, undef, undef, undef, undef, undef], []⟩) (by kernel_rfl) ?_
    refine ls_pick_f (y := (.bool false)) (by kernel_rfl) (by rw [hb_1]; kernel_rfl) (by kernel_rfl) ?_
    refine ls_nil ?_
    refine then_normal ?_
    exact ⟨(fun i => ([undef, undef, undef]).getD i undef), (.bool false), by kernel_rfl, HA, H⟩
  · rintro _ w ⟨D, x13, rfl, HA, H⟩
    refine ls_move (x := x13) (by kernel_rfl) (by kernel_rfl) ?_
    refine ls_and [(), (), (), (), (), ()] (fun K a w => ∃ (D_1 : Nat → Value) (x20 : Value), a = ⟨#[x0, x1, x2, undef, undef, undef, (.bool false), x2, x8, x8, (D 0), (D 1), (D 2), x13, x13, (D_1 0), (D_1 1), (D_1 2), (D_1 3), (D_1 4), x20], []⟩ ∧ At w0 w h ∧ K x20) H (fun hb H => ?_) (fun hb H => ?_) ?_
    · refine ls_move (x := x0) (by rw [hb]; kernel_rfl) (by kernel_rfl) ?_
      refine ls_move (x := x1) (by rw [hb]; kernel_rfl) (by kernel_rfl) ?_
      refine ls_p (d := some 17) (by kernel_rfl) (by rw [hb]; kernel_rfl) (p_sub (by kernel_rfl) (by kernel_rfl) H) (fun x17 H => ?_)
      refine ls_move (x := x2) (by rw [hb]; kernel_rfl) (by kernel_rfl) ?_
      refine ls_p (d := some 19) (by kernel_rfl) (by rw [hb]; kernel_rfl) (p_sLt (by kernel_rfl) (by kernel_rfl) H) (fun x19 H => ?_)
      refine ls_fr (b := ⟨#[x0, x1, x2, undef, undef, undef, (.bool false), x2, x8, x8, (D 0), (D 1), (D 2), x13, x13, x0, x1, x17, x2, x19, undef], []⟩) (by kernel_rfl) ?_
      refine ls_pick_t (x := x19) (by kernel_rfl) (by rw [hb]; kernel_rfl) (by kernel_rfl) ?_
      refine ls_nil ?_
      refine then_normal ?_
      exact ⟨(fun i => ([x0, x1, x17, x2, x19]).getD i undef), x19, by kernel_rfl, HA, H⟩
    · refine ls_skip (d := some 15) (by kernel_rfl) (by rw [hb]; kernel_rfl) ?_
      refine ls_skip (d := some 16) (by kernel_rfl) (by rw [hb]; kernel_rfl) ?_
      refine ls_skip (d := some 17) (by kernel_rfl) (by rw [hb]; kernel_rfl) ?_
      refine ls_skip (d := some 18) (by kernel_rfl) (by rw [hb]; kernel_rfl) ?_
      refine ls_skip (d := some 19) (by kernel_rfl) (by rw [hb]; kernel_rfl) ?_
      refine ls_fr (b := ⟨#[x0, x1, x2, undef, undef, undef, (.bool false), x2, x8, x8, (D 0), (D 1), (D 2), x13, x13, undef, undef, undef, undef, undef, undef], []⟩) (by kernel_rfl) ?_
      refine ls_pick_f (y := (.bool false)) (by kernel_rfl) (by rw [hb]; kernel_rfl) (by kernel_rfl) ?_
      refine ls_nil ?_
      refine then_normal ?_
      exact ⟨(fun i => ([undef, undef, undef, undef, undef]).getD i undef), (.bool false), by kernel_rfl, HA, H⟩
    · rintro _ w_1 ⟨D_1, x20, rfl, HA_1, H⟩
      refine ls_assign (x := x20) (by kernel_rfl) (by kernel_rfl) ?_
      refine ls_nil ?_
      refine then_normal ?_
      refine fr_eq (b := ⟨#[x0, x1, x2, undef, undef, undef, x20, x2, x8, x8, (D 0), (D 1), (D 2), x13, x13, (D_1 0), (D_1 1), (D_1 2), (D_1 3), (D_1 4), x20], []⟩) (by kernel_rfl) ?_
      refine wp_ret ?_
      exact end1 (Try.results55) (by kernel_rfl) (by kernel_rfl) HA_1 H _ (.inr rfl)

end Go.Proofs.Ythhpieidlpjbmaa
