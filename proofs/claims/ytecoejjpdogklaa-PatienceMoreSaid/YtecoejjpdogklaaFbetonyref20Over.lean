/- The shallow reading of one function, and that the function does it. Written by a program. -/
import Derived.Test.YtecoejjpdogklaaFnC
set_option linter.unusedVariables false
namespace Go.Proofs.Ytecoejjpdogklaa
open Go Go.HW

def betonyref20_Over_S (x0 x1 x2 x3 x4 x5 : Value) (h : Heap) (R : Value → Heap → Prop) : Prop :=
  sMin x3 x2 fun x16 =>
  sEq x2 (.int .i64 0) fun x18 =>
  sOr x18 (fun k_4 =>
  sEq x16 x2 fun x22 =>
  k_4 x22) fun x23 =>
  sIf x23 (R (.bool true) h) (sGt x0 (.int .i64 0) fun x25 =>
  sAnd x25 (fun k_3 =>
  sGt x1 (.int .i64 0) fun x28 =>
  k_3 x28) fun x29 =>
  sIf x29 (sGe x16 x0 fun x32 =>
  sOr x32 (fun k =>
  sGt x16 (.int .i64 0) fun x35 =>
  sAnd x35 (fun k_1 =>
  sGe x4 x1 fun x39 =>
  k_1 x39) fun x40 =>
  k x40) fun x41 =>
  R x41 h) (sGt x0 (.int .i64 0) fun x43 =>
  sIf x43 (sGe x16 x0 fun x46 =>
  R x46 h) (sGt x1 (.int .i64 0) fun x48 =>
  sIf x48 (sGt x16 (.int .i64 0) fun x50 =>
  sOr x50 (fun k_2 =>
  sGe x5 x1 fun x54 =>
  k_2 x54) fun x55 =>
  R x55 h) (R (.bool true) h))))
set_option maxRecDepth 100000 in
theorem betonyref20_Over_runs {x0 x1 x2 x3 x4 x5 : Value} {h : Heap} {R : Value → Heap → Prop} (H : betonyref20_Over_S x0 x1 x2 x3 x4 x5 h R) : betonyref20_Over_c x0 x1 x2 x3 x4 x5 h R := by
  unfold betonyref20_Over_S at H
  refine runs_of (b := ⟨#[x0, x1, x2, x3, x4, x5, undef, undef, undef, undef, undef, undef, undef, undef, undef, undef, undef, undef, undef, undef, undef, undef, undef, undef, undef, undef, undef, undef, undef, undef, undef, undef, undef, undef, undef, undef, undef, undef, undef, undef, undef, undef, undef, undef, undef, undef, undef, undef, undef, undef, undef, undef, undef, undef, undef, undef], []⟩) Try.call16 Try.func16 rfl (by kernel_rfl) (fun w0 HA => ?_)
  refine wp_seq ?_
  refine lwp_list ?_
  refine ls_assign (x := (.bool false)) (by kernel_rfl) (by kernel_rfl) ?_
  refine ls_nil ?_
  refine then_normal ?_
  refine fr_eq (b := ⟨#[x0, x1, x2, x3, x4, x5, undef, undef, undef, undef, undef, undef, (.bool false), undef, undef, undef, undef, undef, undef, undef, undef, undef, undef, undef, undef, undef, undef, undef, undef, undef, undef, undef, undef, undef, undef, undef, undef, undef, undef, undef, undef, undef, undef, undef, undef, undef, undef, undef, undef, undef, undef, undef, undef, undef, undef, undef], []⟩) (by kernel_rfl) ?_
  refine wp_seq ?_
  refine lwp_list ?_
  refine ls_move (x := x3) (by kernel_rfl) (by kernel_rfl) ?_
  refine ls_move (x := x2) (by kernel_rfl) (by kernel_rfl) ?_
  refine ls_p (d := some 16) (by kernel_rfl) (by kernel_rfl) (p_min (by kernel_rfl) (by kernel_rfl) H) (fun x16 H => ?_)
  refine ls_assign (x := x16) (by kernel_rfl) (by kernel_rfl) ?_
  refine ls_nil ?_
  refine then_normal ?_
  refine fr_eq (b := ⟨#[x0, x1, x2, x3, x4, x5, undef, undef, undef, undef, undef, undef, (.bool false), x16, x3, x2, x16, undef, undef, undef, undef, undef, undef, undef, undef, undef, undef, undef, undef, undef, undef, undef, undef, undef, undef, undef, undef, undef, undef, undef, undef, undef, undef, undef, undef, undef, undef, undef, undef, undef, undef, undef, undef, undef, undef, undef], []⟩) (by kernel_rfl) ?_
  refine wp_seq ?_
  refine wp_seq ?_
  refine lwp_list ?_
  refine ls_move (x := x2) (by kernel_rfl) (by kernel_rfl) ?_
  refine ls_p (d := some 18) (by kernel_rfl) (by kernel_rfl) (p_sEq (by kernel_rfl) (by kernel_rfl) H) (fun x18 H => ?_)
  refine ls_move (x := x18) (by kernel_rfl) (by kernel_rfl) ?_
  refine ls_or [(), (), (), ()] (fun K a w => ∃ (D : Nat → Value) (x23 : Value), a = ⟨#[x0, x1, x2, x3, x4, x5, undef, undef, undef, undef, undef, undef, (.bool false), x16, x3, x2, x16, x2, x18, x18, (D 0), (D 1), (D 2), x23, undef, undef, undef, undef, undef, undef, undef, undef, undef, undef, undef, undef, undef, undef, undef, undef, undef, undef, undef, undef, undef, undef, undef, undef, undef, undef, undef, undef, undef, undef, undef, undef], []⟩ ∧ At w0 w h ∧ K x23) H (fun hb_4 H => ?_) (fun hb_4 H => ?_) ?_
  · refine ls_move (x := x16) (by rw [hb_4]; kernel_rfl) (by kernel_rfl) ?_
    refine ls_move (x := x2) (by rw [hb_4]; kernel_rfl) (by kernel_rfl) ?_
    refine ls_p (d := some 22) (by kernel_rfl) (by rw [hb_4]; kernel_rfl) (p_sEq (by kernel_rfl) (by kernel_rfl) H) (fun x22 H => ?_)
    refine ls_fr (b := ⟨#[x0, x1, x2, x3, x4, x5, undef, undef, undef, undef, undef, undef, (.bool false), x16, x3, x2, x16, x2, x18, x18, x16, x2, x22, undef, undef, undef, undef, undef, undef, undef, undef, undef, undef, undef, undef, undef, undef, undef, undef, undef, undef, undef, undef, undef, undef, undef, undef, undef, undef, undef, undef, undef, undef, undef, undef, undef], []⟩) (by kernel_rfl) ?_
    refine ls_pick_f (y := x22) (by kernel_rfl) (by rw [hb_4]; kernel_rfl) (by kernel_rfl) ?_
    refine ls_nil ?_
    refine then_normal ?_
    exact ⟨(fun i => ([x16, x2, x22]).getD i undef), x22, by kernel_rfl, HA, H⟩
  · refine ls_skip (d := some 20) (by kernel_rfl) (by rw [hb_4]; kernel_rfl) ?_
    refine ls_skip (d := some 21) (by kernel_rfl) (by rw [hb_4]; kernel_rfl) ?_
    refine ls_skip (d := some 22) (by kernel_rfl) (by rw [hb_4]; kernel_rfl) ?_
    refine ls_fr (b := ⟨#[x0, x1, x2, x3, x4, x5, undef, undef, undef, undef, undef, undef, (.bool false), x16, x3, x2, x16, x2, x18, x18, undef, undef, undef, undef, undef, undef, undef, undef, undef, undef, undef, undef, undef, undef, undef, undef, undef, undef, undef, undef, undef, undef, undef, undef, undef, undef, undef, undef, undef, undef, undef, undef, undef, undef, undef, undef], []⟩) (by kernel_rfl) ?_
    refine ls_pick_t (x := (.bool true)) (by kernel_rfl) (by rw [hb_4]; kernel_rfl) (by kernel_rfl) ?_
    refine ls_nil ?_
    refine then_normal ?_
    exact ⟨(fun i => ([undef, undef, undef]).getD i undef), (.bool true), by kernel_rfl, HA, H⟩
  · rintro _ w ⟨D, x23, rfl, HA, H⟩
    refine ls_nil ?_
    refine then_normal ?_
    refine fr_eq (b := ⟨#[x0, x1, x2, x3, x4, x5, undef, undef, undef, undef, undef, undef, (.bool false), x16, x3, x2, x16, x2, x18, x18, (D 0), (D 1), (D 2), x23, undef, undef, undef, undef, undef, undef, undef, undef, undef, undef, undef, undef, undef, undef, undef, undef, undef, undef, undef, undef, undef, undef, undef, undef, undef, undef, undef, undef, undef, undef, undef, undef], []⟩) (by kernel_rfl) ?_
    refine wp_if rfl H (fun H => ?_) (fun H => ?_)
    · refine wp_seq ?_
      refine lwp_list ?_
      refine ls_assign (x := (.bool true)) (by kernel_rfl) (by kernel_rfl) ?_
      refine ls_nil ?_
      refine then_normal ?_
      refine fr_eq (b := ⟨#[x0, x1, x2, x3, x4, x5, undef, undef, undef, undef, undef, undef, (.bool true), x16, x3, x2, x16, x2, x18, x18, (D 0), (D 1), (D 2), x23, undef, undef, undef, undef, undef, undef, undef, undef, undef, undef, undef, undef, undef, undef, undef, undef, undef, undef, undef, undef, undef, undef, undef, undef, undef, undef, undef, undef, undef, undef, undef, undef], []⟩) (by kernel_rfl) ?_
      refine wp_ret ?_
      refine then_ret ?_
      exact end1 (Try.results16) (by kernel_rfl) (by kernel_rfl) HA H _ (.inr rfl)
    · refine wp_skip ?_
      refine then_normal ?_
      refine fr_eq (b := ⟨#[x0, x1, x2, x3, x4, x5, undef, undef, undef, undef, undef, undef, (.bool false), x16, x3, x2, x16, x2, x18, x18, (D 0), (D 1), (D 2), x23, undef, undef, undef, undef, undef, undef, undef, undef, undef, undef, undef, undef, undef, undef, undef, undef, undef, undef, undef, undef, undef, undef, undef, undef, undef, undef, undef, undef, undef, undef, undef, undef], []⟩) (by kernel_rfl) ?_
      refine wp_seq ?_
      refine wp_seq ?_
      refine lwp_list ?_
      refine ls_move (x := x0) (by kernel_rfl) (by kernel_rfl) ?_
      refine ls_p (d := some 25) (by kernel_rfl) (by kernel_rfl) (p_sGt (by kernel_rfl) (by kernel_rfl) H) (fun x25 H => ?_)
      refine ls_move (x := x25) (by kernel_rfl) (by kernel_rfl) ?_
      refine ls_and [(), (), ()] (fun K a w => ∃ (D_1 : Nat → Value) (x29 : Value), a = ⟨#[x0, x1, x2, x3, x4, x5, undef, undef, undef, undef, undef, undef, (.bool false), x16, x3, x2, x16, x2, x18, x18, (D 0), (D 1), (D 2), x23, x0, x25, x25, (D_1 0), (D_1 1), x29, undef, undef, undef, undef, undef, undef, undef, undef, undef, undef, undef, undef, undef, undef, undef, undef, undef, undef, undef, undef, undef, undef, undef, undef, undef, undef], []⟩ ∧ At w0 w h ∧ K x29) H (fun hb_3 H => ?_) (fun hb_3 H => ?_) ?_
      · refine ls_move (x := x1) (by rw [hb_3]; kernel_rfl) (by kernel_rfl) ?_
        refine ls_p (d := some 28) (by kernel_rfl) (by rw [hb_3]; kernel_rfl) (p_sGt (by kernel_rfl) (by kernel_rfl) H) (fun x28 H => ?_)
        refine ls_pick_t (x := x28) (by kernel_rfl) (by rw [hb_3]; kernel_rfl) (by kernel_rfl) ?_
        refine ls_nil ?_
        refine then_normal ?_
        exact ⟨(fun i => ([x1, x28]).getD i undef), x28, by kernel_rfl, HA, H⟩
      · refine ls_skip (d := some 27) (by kernel_rfl) (by rw [hb_3]; kernel_rfl) ?_
        refine ls_skip (d := some 28) (by kernel_rfl) (by rw [hb_3]; kernel_rfl) ?_
        refine ls_pick_f (y := (.bool false)) (by kernel_rfl) (by rw [hb_3]; kernel_rfl) (by kernel_rfl) ?_
        refine ls_nil ?_
        refine then_normal ?_
        exact ⟨(fun i => ([undef, undef]).getD i undef), (.bool false), by kernel_rfl, HA, H⟩
      · rintro _ w_1 ⟨D_1, x29, rfl, HA_1, H⟩
        refine ls_nil ?_
        refine then_normal ?_
        refine fr_eq (b := ⟨#[x0, x1, x2, x3, x4, x5, undef, undef, undef, undef, undef, undef, (.bool false), x16, x3, x2, x16, x2, x18, x18, (D 0), (D 1), (D 2), x23, x0, x25, x25, (D_1 0), (D_1 1), x29, undef, undef, undef, undef, undef, undef, undef, undef, undef, undef, undef, undef, undef, undef, undef, undef, undef, undef, undef, undef, undef, undef, undef, undef, undef, undef], []⟩) (by kernel_rfl) ?_
        refine wp_if rfl H (fun H => ?_) (fun H => ?_)
        · refine wp_seq ?_
          refine lwp_list ?_
          refine ls_move (x := x16) (by kernel_rfl) (by kernel_rfl) ?_
          refine ls_move (x := x0) (by kernel_rfl) (by kernel_rfl) ?_
          refine ls_p (d := some 32) (by kernel_rfl) (by kernel_rfl) (p_sGe (by kernel_rfl) (by kernel_rfl) H) (fun x32 H => ?_)
          refine ls_move (x := x32) (by kernel_rfl) (by kernel_rfl) ?_
          refine ls_or [(), (), (), (), (), (), (), ()] (fun K a w => ∃ (D_2 : Nat → Value) (x41 : Value), a = ⟨#[x0, x1, x2, x3, x4, x5, undef, undef, undef, undef, undef, undef, (.bool false), x16, x3, x2, x16, x2, x18, x18, (D 0), (D 1), (D 2), x23, x0, x25, x25, (D_1 0), (D_1 1), x29, x16, x0, x32, x32, (D_2 0), (D_2 1), (D_2 2), (D_2 3), (D_2 4), (D_2 5), (D_2 6), x41, undef, undef, undef, undef, undef, undef, undef, undef, undef, undef, undef, undef, undef, undef], []⟩ ∧ At w0 w h ∧ K x41) H (fun hb H => ?_) (fun hb H => ?_) ?_
          · refine ls_move (x := x16) (by rw [hb]; kernel_rfl) (by kernel_rfl) ?_
            refine ls_p (d := some 35) (by kernel_rfl) (by rw [hb]; kernel_rfl) (p_sGt (by kernel_rfl) (by kernel_rfl) H) (fun x35 H => ?_)
            refine ls_fr (b := ⟨#[x0, x1, x2, x3, x4, x5, undef, undef, undef, undef, undef, undef, (.bool false), x16, x3, x2, x16, x2, x18, x18, (D 0), (D 1), (D 2), x23, x0, x25, x25, (D_1 0), (D_1 1), x29, x16, x0, x32, x32, x16, x35, undef, undef, undef, undef, undef, undef, undef, undef, undef, undef, undef, undef, undef, undef, undef, undef, undef, undef, undef, undef], []⟩) (by kernel_rfl) ?_
            refine ls_move (x := x35) (by rw [hb]; kernel_rfl) (by kernel_rfl) ?_
            refine ls_and [(), (), (), ()] (fun K a w => ∃ (D_3 : Nat → Value) (x40 : Value), a = ⟨#[x0, x1, x2, x3, x4, x5, undef, undef, undef, undef, undef, undef, (.bool false), x16, x3, x2, x16, x2, x18, x18, (D 0), (D 1), (D 2), x23, x0, x25, x25, (D_1 0), (D_1 1), x29, x16, x0, x32, x32, x16, x35, x35, (D_3 0), (D_3 1), (D_3 2), x40, undef, undef, undef, undef, undef, undef, undef, undef, undef, undef, undef, undef, undef, undef, undef], []⟩ ∧ At w0 w h ∧ K x40) H (fun hb_1 H => ?_) (fun hb_1 H => ?_) ?_
            · refine ls_move (x := x4) (by rw [hb_1]; kernel_rfl) (by kernel_rfl) ?_
              refine ls_move (x := x1) (by rw [hb_1]; kernel_rfl) (by kernel_rfl) ?_
              refine ls_p (d := some 39) (by kernel_rfl) (by rw [hb_1]; kernel_rfl) (p_sGe (by kernel_rfl) (by kernel_rfl) H) (fun x39 H => ?_)
              refine ls_pick_t (x := x39) (by rw [hb]; kernel_rfl) (by rw [hb_1]; kernel_rfl) (by kernel_rfl) ?_
              refine ls_nil ?_
              refine then_normal ?_
              exact ⟨(fun i => ([x4, x1, x39]).getD i undef), x39, by kernel_rfl, HA_1, H⟩
            · refine ls_skip (d := some 37) (by kernel_rfl) (by rw [hb_1]; kernel_rfl) ?_
              refine ls_skip (d := some 38) (by kernel_rfl) (by rw [hb_1]; kernel_rfl) ?_
              refine ls_skip (d := some 39) (by kernel_rfl) (by rw [hb_1]; kernel_rfl) ?_
              refine ls_pick_f (y := (.bool false)) (by rw [hb]; kernel_rfl) (by rw [hb_1]; kernel_rfl) (by kernel_rfl) ?_
              refine ls_nil ?_
              refine then_normal ?_
              exact ⟨(fun i => ([undef, undef, undef]).getD i undef), (.bool false), by kernel_rfl, HA_1, H⟩
            · rintro _ w_3 ⟨D_3, x40, rfl, HA_3, H⟩
              refine ls_pick_f (y := x40) (by kernel_rfl) (by rw [hb]; kernel_rfl) (by kernel_rfl) ?_
              refine ls_nil ?_
              refine then_normal ?_
              exact ⟨(fun i => ([x16, x35, x35, (D_3 0), (D_3 1), (D_3 2), x40]).getD i undef), x40, by kernel_rfl, HA_3, H⟩
          · refine ls_skip (d := some 34) (by kernel_rfl) (by rw [hb]; kernel_rfl) ?_
            refine ls_skip (d := some 35) (by kernel_rfl) (by rw [hb]; kernel_rfl) ?_
            refine ls_fr (b := ⟨#[x0, x1, x2, x3, x4, x5, undef, undef, undef, undef, undef, undef, (.bool false), x16, x3, x2, x16, x2, x18, x18, (D 0), (D 1), (D 2), x23, x0, x25, x25, (D_1 0), (D_1 1), x29, x16, x0, x32, x32, undef, undef, undef, undef, undef, undef, undef, undef, undef, undef, undef, undef, undef, undef, undef, undef, undef, undef, undef, undef, undef, undef], []⟩) (by kernel_rfl) ?_
            refine ls_skip (d := some 36) (by kernel_rfl) (by rw [hb]; kernel_rfl) ?_
            refine ls_skip (d := some 37) (by kernel_rfl) (by kernel_rfl) ?_
            refine ls_skip (d := some 38) (by kernel_rfl) (by kernel_rfl) ?_
            refine ls_skip (d := some 39) (by kernel_rfl) (by kernel_rfl) ?_
            refine ls_skip (d := some 40) (by kernel_rfl) (by rw [hb]; kernel_rfl) ?_
            refine ls_pick_t (x := (.bool true)) (by kernel_rfl) (by rw [hb]; kernel_rfl) (by kernel_rfl) ?_
            refine ls_nil ?_
            refine then_normal ?_
            exact ⟨(fun i => ([undef, undef, undef, undef, undef, undef, undef]).getD i undef), (.bool true), by kernel_rfl, HA_1, H⟩
          · rintro _ w_2 ⟨D_2, x41, rfl, HA_2, H⟩
            refine ls_assign (x := x41) (by kernel_rfl) (by kernel_rfl) ?_
            refine ls_nil ?_
            refine then_normal ?_
            refine fr_eq (b := ⟨#[x0, x1, x2, x3, x4, x5, undef, undef, undef, undef, undef, undef, x41, x16, x3, x2, x16, x2, x18, x18, (D 0), (D 1), (D 2), x23, x0, x25, x25, (D_1 0), (D_1 1), x29, x16, x0, x32, x32, (D_2 0), (D_2 1), (D_2 2), (D_2 3), (D_2 4), (D_2 5), (D_2 6), x41, undef, undef, undef, undef, undef, undef, undef, undef, undef, undef, undef, undef, undef, undef], []⟩) (by kernel_rfl) ?_
            refine wp_ret ?_
            refine then_ret ?_
            exact end1 (Try.results16) (by kernel_rfl) (by kernel_rfl) HA_2 H _ (.inr rfl)
        · refine wp_skip ?_
          refine then_normal ?_
          refine fr_eq (b := ⟨#[x0, x1, x2, x3, x4, x5, undef, undef, undef, undef, undef, undef, (.bool false), x16, x3, x2, x16, x2, x18, x18, (D 0), (D 1), (D 2), x23, x0, x25, x25, (D_1 0), (D_1 1), x29, undef, undef, undef, undef, undef, undef, undef, undef, undef, undef, undef, undef, undef, undef, undef, undef, undef, undef, undef, undef, undef, undef, undef, undef, undef, undef], []⟩) (by kernel_rfl) ?_
          refine wp_seq ?_
          refine wp_seq ?_
          refine lwp_list ?_
          refine ls_move (x := x0) (by kernel_rfl) (by kernel_rfl) ?_
          refine ls_p (d := some 43) (by kernel_rfl) (by kernel_rfl) (p_sGt (by kernel_rfl) (by kernel_rfl) H) (fun x43 H => ?_)
          refine ls_nil ?_
          refine then_normal ?_
          refine fr_eq (b := ⟨#[x0, x1, x2, x3, x4, x5, undef, undef, undef, undef, undef, undef, (.bool false), x16, x3, x2, x16, x2, x18, x18, (D 0), (D 1), (D 2), x23, x0, x25, x25, (D_1 0), (D_1 1), x29, undef, undef, undef, undef, undef, undef, undef, undef, undef, undef, undef, undef, x0, x43, undef, undef, undef, undef, undef, undef, undef, undef, undef, undef, undef, undef], []⟩) (by kernel_rfl) ?_
          refine wp_if rfl H (fun H => ?_) (fun H => ?_)
          · refine wp_seq ?_
            refine lwp_list ?_
            refine ls_move (x := x16) (by kernel_rfl) (by kernel_rfl) ?_
            refine ls_move (x := x0) (by kernel_rfl) (by kernel_rfl) ?_
            refine ls_p (d := some 46) (by kernel_rfl) (by kernel_rfl) (p_sGe (by kernel_rfl) (by kernel_rfl) H) (fun x46 H => ?_)
            refine ls_assign (x := x46) (by kernel_rfl) (by kernel_rfl) ?_
            refine ls_nil ?_
            refine then_normal ?_
            refine fr_eq (b := ⟨#[x0, x1, x2, x3, x4, x5, undef, undef, undef, undef, undef, undef, x46, x16, x3, x2, x16, x2, x18, x18, (D 0), (D 1), (D 2), x23, x0, x25, x25, (D_1 0), (D_1 1), x29, undef, undef, undef, undef, undef, undef, undef, undef, undef, undef, undef, undef, x0, x43, x16, x0, x46, undef, undef, undef, undef, undef, undef, undef, undef, undef], []⟩) (by kernel_rfl) ?_
            refine wp_ret ?_
            refine then_ret ?_
            exact end1 (Try.results16) (by kernel_rfl) (by kernel_rfl) HA_1 H _ (.inr rfl)
          · refine wp_skip ?_
            refine then_normal ?_
            refine fr_eq (b := ⟨#[x0, x1, x2, x3, x4, x5, undef, undef, undef, undef, undef, undef, (.bool false), x16, x3, x2, x16, x2, x18, x18, (D 0), (D 1), (D 2), x23, x0, x25, x25, (D_1 0), (D_1 1), x29, undef, undef, undef, undef, undef, undef, undef, undef, undef, undef, undef, undef, x0, x43, undef, undef, undef, undef, undef, undef, undef, undef, undef, undef, undef, undef], []⟩) (by kernel_rfl) ?_
            refine wp_seq ?_
            refine wp_seq ?_
            refine lwp_list ?_
            refine ls_move (x := x1) (by kernel_rfl) (by kernel_rfl) ?_
            refine ls_p (d := some 48) (by kernel_rfl) (by kernel_rfl) (p_sGt (by kernel_rfl) (by kernel_rfl) H) (fun x48 H => ?_)
            refine ls_nil ?_
            refine then_normal ?_
            refine fr_eq (b := ⟨#[x0, x1, x2, x3, x4, x5, undef, undef, undef, undef, undef, undef, (.bool false), x16, x3, x2, x16, x2, x18, x18, (D 0), (D 1), (D 2), x23, x0, x25, x25, (D_1 0), (D_1 1), x29, undef, undef, undef, undef, undef, undef, undef, undef, undef, undef, undef, undef, x0, x43, undef, undef, undef, x1, x48, undef, undef, undef, undef, undef, undef, undef], []⟩) (by kernel_rfl) ?_
            refine wp_if rfl H (fun H => ?_) (fun H => ?_)
            · refine wp_seq ?_
              refine lwp_list ?_
              refine ls_move (x := x16) (by kernel_rfl) (by kernel_rfl) ?_
              refine ls_p (d := some 50) (by kernel_rfl) (by kernel_rfl) (p_sGt (by kernel_rfl) (by kernel_rfl) H) (fun x50 H => ?_)
              refine ls_move (x := x50) (by kernel_rfl) (by kernel_rfl) ?_
              refine ls_or [(), (), (), ()] (fun K a w => ∃ (D_4 : Nat → Value) (x55 : Value), a = ⟨#[x0, x1, x2, x3, x4, x5, undef, undef, undef, undef, undef, undef, (.bool false), x16, x3, x2, x16, x2, x18, x18, (D 0), (D 1), (D 2), x23, x0, x25, x25, (D_1 0), (D_1 1), x29, undef, undef, undef, undef, undef, undef, undef, undef, undef, undef, undef, undef, x0, x43, undef, undef, undef, x1, x48, x16, x50, x50, (D_4 0), (D_4 1), (D_4 2), x55], []⟩ ∧ At w0 w h ∧ K x55) H (fun hb_2 H => ?_) (fun hb_2 H => ?_) ?_
              · refine ls_move (x := x5) (by rw [hb_2]; kernel_rfl) (by kernel_rfl) ?_
                refine ls_move (x := x1) (by rw [hb_2]; kernel_rfl) (by kernel_rfl) ?_
                refine ls_p (d := some 54) (by kernel_rfl) (by rw [hb_2]; kernel_rfl) (p_sGe (by kernel_rfl) (by kernel_rfl) H) (fun x54 H => ?_)
                refine ls_fr (b := ⟨#[x0, x1, x2, x3, x4, x5, undef, undef, undef, undef, undef, undef, (.bool false), x16, x3, x2, x16, x2, x18, x18, (D 0), (D 1), (D 2), x23, x0, x25, x25, (D_1 0), (D_1 1), x29, undef, undef, undef, undef, undef, undef, undef, undef, undef, undef, undef, undef, x0, x43, undef, undef, undef, x1, x48, x16, x50, x50, x5, x1, x54, undef], []⟩) (by kernel_rfl) ?_
                refine ls_pick_f (y := x54) (by kernel_rfl) (by rw [hb_2]; kernel_rfl) (by kernel_rfl) ?_
                refine ls_nil ?_
                refine then_normal ?_
                exact ⟨(fun i => ([x5, x1, x54]).getD i undef), x54, by kernel_rfl, HA_1, H⟩
              · refine ls_skip (d := some 52) (by kernel_rfl) (by rw [hb_2]; kernel_rfl) ?_
                refine ls_skip (d := some 53) (by kernel_rfl) (by rw [hb_2]; kernel_rfl) ?_
                refine ls_skip (d := some 54) (by kernel_rfl) (by rw [hb_2]; kernel_rfl) ?_
                refine ls_fr (b := ⟨#[x0, x1, x2, x3, x4, x5, undef, undef, undef, undef, undef, undef, (.bool false), x16, x3, x2, x16, x2, x18, x18, (D 0), (D 1), (D 2), x23, x0, x25, x25, (D_1 0), (D_1 1), x29, undef, undef, undef, undef, undef, undef, undef, undef, undef, undef, undef, undef, x0, x43, undef, undef, undef, x1, x48, x16, x50, x50, undef, undef, undef, undef], []⟩) (by kernel_rfl) ?_
                refine ls_pick_t (x := (.bool true)) (by kernel_rfl) (by rw [hb_2]; kernel_rfl) (by kernel_rfl) ?_
                refine ls_nil ?_
                refine then_normal ?_
                exact ⟨(fun i => ([undef, undef, undef]).getD i undef), (.bool true), by kernel_rfl, HA_1, H⟩
              · rintro _ w_4 ⟨D_4, x55, rfl, HA_4, H⟩
                refine ls_assign (x := x55) (by kernel_rfl) (by kernel_rfl) ?_
                refine ls_nil ?_
                refine then_normal ?_
                refine fr_eq (b := ⟨#[x0, x1, x2, x3, x4, x5, undef, undef, undef, undef, undef, undef, x55, x16, x3, x2, x16, x2, x18, x18, (D 0), (D 1), (D 2), x23, x0, x25, x25, (D_1 0), (D_1 1), x29, undef, undef, undef, undef, undef, undef, undef, undef, undef, undef, undef, undef, x0, x43, undef, undef, undef, x1, x48, x16, x50, x50, (D_4 0), (D_4 1), (D_4 2), x55], []⟩) (by kernel_rfl) ?_
                refine wp_ret ?_
                refine then_ret ?_
                exact end1 (Try.results16) (by kernel_rfl) (by kernel_rfl) HA_4 H _ (.inr rfl)
            · refine wp_skip ?_
              refine then_normal ?_
              refine fr_eq (b := ⟨#[x0, x1, x2, x3, x4, x5, undef, undef, undef, undef, undef, undef, (.bool false), x16, x3, x2, x16, x2, x18, x18, (D 0), (D 1), (D 2), x23, x0, x25, x25, (D_1 0), (D_1 1), x29, undef, undef, undef, undef, undef, undef, undef, undef, undef, undef, undef, undef, x0, x43, undef, undef, undef, x1, x48, undef, undef, undef, undef, undef, undef, undef], []⟩) (by kernel_rfl) ?_
              refine wp_seq ?_
              refine lwp_list ?_
              refine ls_assign (x := (.bool true)) (by kernel_rfl) (by kernel_rfl) ?_
              refine ls_nil ?_
              refine then_normal ?_
              refine fr_eq (b := ⟨#[x0, x1, x2, x3, x4, x5, undef, undef, undef, undef, undef, undef, (.bool true), x16, x3, x2, x16, x2, x18, x18, (D 0), (D 1), (D 2), x23, x0, x25, x25, (D_1 0), (D_1 1), x29, undef, undef, undef, undef, undef, undef, undef, undef, undef, undef, undef, undef, x0, x43, undef, undef, undef, x1, x48, undef, undef, undef, undef, undef, undef, undef], []⟩) (by kernel_rfl) ?_
              refine wp_ret ?_
              exact end1 (Try.results16) (by kernel_rfl) (by kernel_rfl) HA_1 H _ (.inr rfl)

end Go.Proofs.Ytecoejjpdogklaa
