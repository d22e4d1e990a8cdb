/- The shallow reading of one function, and that the function does it. Written by a program. -/
import Derived.Test.YtlcklnbgknhhkaaFnC
set_option linter.unusedVariables false
namespace Go.Proofs.Ytlcklnbgknhhkaa
open Go Go.HW

def betonyref17_Is_S (x0 x1 x2 : Value) (h : Heap) (R : Value → Heap → Prop) : Prop :=
  sBox h x0 28 fun x3 h => 
  sGe x1 (.int .i64 0) fun x8 =>
  sAnd x8 (fun k_2 =>
  sLt x1 (.int .i64 12) fun x11 =>
  k_2 x11) fun x12 =>
  sAnd x12 (fun k_1 =>
  sNe x2 (.int .i64 0) fun x15 =>
  k_1 x15) fun x16 =>
  sAnd x16 (fun k =>
  sOff x3 3 fun x19 =>
  sIxA x19 x1 12 1 fun x20 =>
  sLd h x20 fun x21 =>
  sEq x21 x2 fun x23 =>
  k x23) fun x24 =>
  R x24 h
set_option maxRecDepth 100000 in
theorem betonyref17_Is_runs {x0 x1 x2 : Value} {h : Heap} {R : Value → Heap → Prop} (H : betonyref17_Is_S x0 x1 x2 h R) : betonyref17_Is_c x0 x1 x2 h R := by
  unfold betonyref17_Is_S at H
  refine runs_of (b := ⟨#[x0, x1, x2, undef, undef, undef, undef, undef, undef, undef, undef, undef, undef, undef, undef, undef, undef, undef, undef, undef, undef, undef, undef, undef, undef], []⟩) Try.call70 Try.func70 rfl (by kernel_rfl) (fun w0 HA => ?_)
  refine wp_seq ?_
  refine lwp_list ?_
  refine ls_d (d := some 3) (by kernel_rfl) (by kernel_rfl) HA (d_box (by kernel_rfl) H) (fun x3 h w H HA => ?_)
  refine ls_assign (x := (.bool false)) (by kernel_rfl) (by kernel_rfl) ?_
  refine ls_nil ?_
  refine then_normal ?_
  refine fr_eq (b := ⟨#[x0, x1, x2, x3, undef, undef, (.bool false), undef, undef, undef, undef, undef, undef, undef, undef, undef, undef, undef, undef, undef, undef, undef, undef, undef, undef], []⟩) (by kernel_rfl) ?_
  refine wp_seq ?_
  refine lwp_list ?_
  refine ls_move (x := x1) (by kernel_rfl) (by kernel_rfl) ?_
  refine ls_p (d := some 8) (by kernel_rfl) (by kernel_rfl) (p_sGe (by kernel_rfl) (by kernel_rfl) H) (fun x8 H => ?_)
  refine ls_move (x := x8) (by kernel_rfl) (by kernel_rfl) ?_
  refine ls_and [(), (), ()] (fun K a w => ∃ (D : Nat → Value) (x12 : Value), a = ⟨#[x0, x1, x2, x3, undef, undef, (.bool false), x1, x8, x8, (D 0), (D 1), x12, undef, undef, undef, undef, undef, undef, undef, undef, undef, undef, undef, undef], []⟩ ∧ At w0 w h ∧ K x12) H (fun hb_2 H => ?_) (fun hb_2 H => ?_) ?_
  · refine ls_move (x := x1) (by rw [hb_2]; kernel_rfl) (by kernel_rfl) ?_
    refine ls_p (d := some 11) (by kernel_rfl) (by rw [hb_2]; kernel_rfl) (p_sLt (by kernel_rfl) (by kernel_rfl) H) (fun x11 H => ?_)
    refine ls_pick_t (x := x11) (by kernel_rfl) (by rw [hb_2]; kernel_rfl) (by kernel_rfl) ?_
    refine ls_nil ?_
    refine then_normal ?_
    exact ⟨(fun i => ([x1, x11]).getD i undef), x11, by kernel_rfl, HA, H⟩
  · refine ls_skip (d := some 10) (by kernel_rfl) (by rw [hb_2]; kernel_rfl) ?_
    refine ls_skip (d := some 11) (by kernel_rfl) (by rw [hb_2]; kernel_rfl) ?_
    refine ls_pick_f (y := (.bool false)) (by kernel_rfl) (by rw [hb_2]; kernel_rfl) (by kernel_rfl) ?_
    refine ls_nil ?_
    refine then_normal ?_
    exact ⟨(fun i => ([undef, undef]).getD i undef), (.bool false), by kernel_rfl, HA, H⟩
  · rintro _ w_1 ⟨D, x12, rfl, HA_1, H⟩
    refine ls_move (x := x12) (by kernel_rfl) (by kernel_rfl) ?_
    refine ls_and [(), (), ()] (fun K a w => ∃ (D_1 : Nat → Value) (x16 : Value), a = ⟨#[x0, x1, x2, x3, undef, undef, (.bool false), x1, x8, x8, (D 0), (D 1), x12, x12, (D_1 0), (D_1 1), x16, undef, undef, undef, undef, undef, undef, undef, undef], []⟩ ∧ At w0 w h ∧ K x16) H (fun hb_1 H => ?_) (fun hb_1 H => ?_) ?_
    · refine ls_move (x := x2) (by rw [hb_1]; kernel_rfl) (by kernel_rfl) ?_
      refine ls_p (d := some 15) (by kernel_rfl) (by rw [hb_1]; kernel_rfl) (p_sNe (by kernel_rfl) (by kernel_rfl) H) (fun x15 H => ?_)
      refine ls_pick_t (x := x15) (by kernel_rfl) (by rw [hb_1]; kernel_rfl) (by kernel_rfl) ?_
      refine ls_nil ?_
      refine then_normal ?_
      exact ⟨(fun i => ([x2, x15]).getD i undef), x15, by kernel_rfl, HA_1, H⟩
    · refine ls_skip (d := some 14) (by kernel_rfl) (by rw [hb_1]; kernel_rfl) ?_
      refine ls_skip (d := some 15) (by kernel_rfl) (by rw [hb_1]; kernel_rfl) ?_
      refine ls_pick_f (y := (.bool false)) (by kernel_rfl) (by rw [hb_1]; kernel_rfl) (by kernel_rfl) ?_
      refine ls_nil ?_
      refine then_normal ?_
      exact ⟨(fun i => ([undef, undef]).getD i undef), (.bool false), by kernel_rfl, HA_1, H⟩
    · rintro _ w_2 ⟨D_1, x16, rfl, HA_2, H⟩
      refine ls_move (x := x16) (by kernel_rfl) (by kernel_rfl) ?_
      refine ls_and [(), (), (), (), (), (), ()] (fun K a w => ∃ (D_2 : Nat → Value) (x24 : Value), a = ⟨#[x0, x1, x2, x3, undef, undef, (.bool false), x1, x8, x8, (D 0), (D 1), x12, x12, (D_1 0), (D_1 1), x16, x16, (D_2 0), (D_2 1), (D_2 2), (D_2 3), (D_2 4), (D_2 5), x24], []⟩ ∧ At w0 w h ∧ K x24) H (fun hb H => ?_) (fun hb H => ?_) ?_
      · refine ls_move (x := x1) (by rw [hb]; kernel_rfl) (by kernel_rfl) ?_
        refine ls_p (d := some 19) (by kernel_rfl) (by rw [hb]; kernel_rfl) (p_off Try.underlying28 rfl (fun w => ⟨_, Try.sizeOf26 w⟩) rfl (by kernel_rfl) H) (fun x19 H => ?_)
        refine ls_p (d := some 20) (by kernel_rfl) (by rw [hb]; kernel_rfl) (p_ixa Try.underlying26 Try.sizeOf3 (by kernel_rfl) (by kernel_rfl) H) (fun x20 H => ?_)
        refine ls_y (d := some 21) (by kernel_rfl) (by rw [hb]; kernel_rfl) HA_2 (y_ld Try.isAgg3 (by kernel_rfl) H) (fun x21 H => ?_)
        refine ls_move (x := x2) (by rw [hb]; kernel_rfl) (by kernel_rfl) ?_
        refine ls_fr (b := ⟨#[x0, x1, x2, x3, undef, undef, (.bool false), x1, x8, x8, (D 0), (D 1), x12, x12, (D_1 0), (D_1 1), x16, x16, x1, x19, x20, x21, x2, undef, undef], []⟩) (by kernel_rfl) ?_
        refine ls_p (d := some 23) (by kernel_rfl) (by rw [hb]; kernel_rfl) (p_sEq (by kernel_rfl) (by kernel_rfl) H) (fun x23 H => ?_)
        refine ls_pick_t (x := x23) (by kernel_rfl) (by rw [hb]; kernel_rfl) (by kernel_rfl) ?_
        refine ls_nil ?_
        refine then_normal ?_
        exact ⟨(fun i => ([x1, x19, x20, x21, x2, x23]).getD i undef), x23, by kernel_rfl, HA_2, H⟩
      · refine ls_skip (d := some 18) (by kernel_rfl) (by rw [hb]; kernel_rfl) ?_
        refine ls_skip (d := some 19) (by kernel_rfl) (by rw [hb]; kernel_rfl) ?_
        refine ls_skip (d := some 20) (by kernel_rfl) (by rw [hb]; kernel_rfl) ?_
        refine ls_skip (d := some 21) (by kernel_rfl) (by rw [hb]; kernel_rfl) ?_
        refine ls_skip (d := some 22) (by kernel_rfl) (by rw [hb]; kernel_rfl) ?_
        refine ls_fr (b := ⟨#[x0, x1, x2, x3, undef, undef, (.bool false), x1, x8, x8, (D 0), (D 1), x12, x12, (D_1 0), (D_1 1), x16, x16, undef, undef, undef, undef, undef, undef, undef], []⟩) (by kernel_rfl) ?_
        refine ls_skip (d := some 23) (by kernel_rfl) (by rw [hb]; kernel_rfl) ?_
        refine ls_pick_f (y := (.bool false)) (by kernel_rfl) (by rw [hb]; kernel_rfl) (by kernel_rfl) ?_
        refine ls_nil ?_
        refine then_normal ?_
        exact ⟨(fun i => ([undef, undef, undef, undef, undef, undef]).getD i undef), (.bool false), by kernel_rfl, HA_2, H⟩
      · rintro _ w_3 ⟨D_2, x24, rfl, HA_3, H⟩
        refine ls_assign (x := x24) (by kernel_rfl) (by kernel_rfl) ?_
        refine ls_nil ?_
        refine then_normal ?_
        refine fr_eq (b := ⟨#[x0, x1, x2, x3, undef, undef, x24, x1, x8, x8, (D 0), (D 1), x12, x12, (D_1 0), (D_1 1), x16, x16, (D_2 0), (D_2 1), (D_2 2), (D_2 3), (D_2 4), (D_2 5), x24], []⟩) (by kernel_rfl) ?_
        refine wp_ret ?_
        exact end1 (Try.results70) (by kernel_rfl) (by kernel_rfl) HA_3 H _ (.inr rfl)

end Go.Proofs.Ytlcklnbgknhhkaa
