/- The shallow reading of one function, and that the function does it. Written by a program. -/
import Derived.Test.YtbgipcikkedloaaFnC
set_option linter.unusedVariables false
namespace Go.Proofs.Ytbgipcikkedloaa
open Go Go.HW

def scan_known_j1 (R : Value → Heap → Prop) (x0 x3 : Value) (h : Heap) : Prop :=
  sIf x3 (R (.bool true) h) (sEq x0 (.int .i64 118) fun x23 =>
  R x23 h)
def scan_known_S (x0 : Value) (h : Heap) (R : Value → Heap → Prop) : Prop :=
  sGe x0 (.int .i64 1) fun x5 =>
  sAnd x5 (fun k_2 =>
  sLe x0 (.int .i64 52) fun x8 =>
  k_2 x8) fun x9 =>
  sIf x9 (scan_known_j1 R x0 x9 h) (sGe x0 (.int .i64 64) fun x11 =>
  sAnd x11 (fun k_1 =>
  sLe x0 (.int .i64 73) fun x14 =>
  k_1 x14) fun x15 =>
  sIf x15 (scan_known_j1 R x0 x15 h) (sGe x0 (.int .i64 80) fun x17 =>
  sAnd x17 (fun k =>
  sLe x0 (.int .i64 83) fun x20 =>
  k x20) fun x21 =>
  scan_known_j1 R x0 x21 h))
set_option maxRecDepth 100000 in
theorem scan_known_runs {x0 : Value} {h : Heap} {R : Value → Heap → Prop} (H : scan_known_S x0 h R) : scan_known_c x0 h R := by
  unfold scan_known_S at H
  refine runs_of (b := ⟨#[x0, undef, undef, undef, undef, undef, undef, undef, undef, undef, undef, undef, undef, undef, undef, undef, undef, undef, undef, undef, undef, undef, undef, undef], []⟩) Try.call40 Try.func40 rfl (by kernel_rfl) (fun w0 HA => ?_)
  refine wp_seq ?_
  refine lwp_list ?_
  refine ls_assign (x := (.bool false)) (by kernel_rfl) (by kernel_rfl) ?_
  refine ls_nil ?_
  refine then_normal ?_
  refine fr_eq (b := ⟨#[x0, undef, (.bool false), undef, undef, undef, undef, undef, undef, undef, undef, undef, undef, undef, undef, undef, undef, undef, undef, undef, undef, undef, undef, undef], []⟩) (by kernel_rfl) ?_
  refine wp_seq ?_
  refine wp_block ?_
  refine wp_seq ?_
  refine wp_seq ?_
  refine lwp_list ?_
  refine ls_move (x := x0) (by kernel_rfl) (by kernel_rfl) ?_
  refine ls_p (d := some 5) (by kernel_rfl) (by kernel_rfl) (p_sGe (by kernel_rfl) (by kernel_rfl) H) (fun x5 H => ?_)
  refine ls_move (x := x5) (by kernel_rfl) (by kernel_rfl) ?_
  refine ls_and [(), (), ()] (fun K a w => ∃ (D : Nat → Value) (x9 : Value), a = ⟨#[x0, undef, (.bool false), undef, x0, x5, x5, (D 0), (D 1), x9, undef, undef, undef, undef, undef, undef, undef, undef, undef, undef, undef, undef, undef, undef], []⟩ ∧ At w0 w h ∧ K x9) H (fun hb_2 H => ?_) (fun hb_2 H => ?_) ?_
  · refine ls_move (x := x0) (by rw [hb_2]; kernel_rfl) (by kernel_rfl) ?_
    refine ls_p (d := some 8) (by kernel_rfl) (by rw [hb_2]; kernel_rfl) (p_sLe (by kernel_rfl) (by kernel_rfl) H) (fun x8 H => ?_)
    refine ls_pick_t (x := x8) (by kernel_rfl) (by rw [hb_2]; kernel_rfl) (by kernel_rfl) ?_
    refine ls_nil ?_
    refine then_normal ?_
    exact ⟨(fun i => ([x0, x8]).getD i undef), x8, by kernel_rfl, HA, H⟩
  · refine ls_skip (d := some 7) (by kernel_rfl) (by rw [hb_2]; kernel_rfl) ?_
    refine ls_skip (d := some 8) (by kernel_rfl) (by rw [hb_2]; kernel_rfl) ?_
    refine ls_pick_f (y := (.bool false)) (by kernel_rfl) (by rw [hb_2]; kernel_rfl) (by kernel_rfl) ?_
    refine ls_nil ?_
    refine then_normal ?_
    exact ⟨(fun i => ([undef, undef]).getD i undef), (.bool false), by kernel_rfl, HA, H⟩
  · rintro _ w ⟨D, x9, rfl, HA, H⟩
    refine ls_assign (x := x9) (by kernel_rfl) (by kernel_rfl) ?_
    refine ls_nil ?_
    refine then_normal ?_
    refine fr_eq (b := ⟨#[x0, undef, (.bool false), x9, x0, x5, x5, (D 0), (D 1), x9, undef, undef, undef, undef, undef, undef, undef, undef, undef, undef, undef, undef, undef, undef], []⟩) (by kernel_rfl) ?_
    refine wp_join (fun a w => ∃ (D_1 : Nat → Value) (x3 : Value) (h : Heap), a = ⟨#[x0, undef, (.bool false), x3, x0, x5, x5, (D 0), (D 1), x9, (D_1 0), (D_1 1), (D_1 2), (D_1 3), (D_1 4), (D_1 5), (D_1 6), (D_1 7), (D_1 8), (D_1 9), (D_1 10), (D_1 11), undef, undef], []⟩ ∧ At w0 w h ∧ scan_known_j1 R x0 x3 h) ?_ ?_
    · refine wp_if rfl H (fun H => ?_) (fun H => ?_)
      · refine wp_skip ?_
        exact ⟨(fun i => ([undef, undef, undef, undef, undef, undef, undef, undef, undef, undef, undef, undef]).getD i undef), x9, h, by kernel_rfl, HA, H⟩
      · refine wp_seq ?_
        refine lwp_list ?_
        refine ls_move (x := x0) (by kernel_rfl) (by kernel_rfl) ?_
        refine ls_p (d := some 11) (by kernel_rfl) (by kernel_rfl) (p_sGe (by kernel_rfl) (by kernel_rfl) H) (fun x11 H => ?_)
        refine ls_move (x := x11) (by kernel_rfl) (by kernel_rfl) ?_
        refine ls_and [(), (), ()] (fun K a w => ∃ (D_2 : Nat → Value) (x15 : Value), a = ⟨#[x0, undef, (.bool false), x9, x0, x5, x5, (D 0), (D 1), x9, x0, x11, x11, (D_2 0), (D_2 1), x15, undef, undef, undef, undef, undef, undef, undef, undef], []⟩ ∧ At w0 w h ∧ K x15) H (fun hb_1 H => ?_) (fun hb_1 H => ?_) ?_
        · refine ls_move (x := x0) (by rw [hb_1]; kernel_rfl) (by kernel_rfl) ?_
          refine ls_p (d := some 14) (by kernel_rfl) (by rw [hb_1]; kernel_rfl) (p_sLe (by kernel_rfl) (by kernel_rfl) H) (fun x14 H => ?_)
          refine ls_pick_t (x := x14) (by kernel_rfl) (by rw [hb_1]; kernel_rfl) (by kernel_rfl) ?_
          refine ls_nil ?_
          refine then_normal ?_
          exact ⟨(fun i => ([x0, x14]).getD i undef), x14, by kernel_rfl, HA, H⟩
        · refine ls_skip (d := some 13) (by kernel_rfl) (by rw [hb_1]; kernel_rfl) ?_
          refine ls_skip (d := some 14) (by kernel_rfl) (by rw [hb_1]; kernel_rfl) ?_
          refine ls_pick_f (y := (.bool false)) (by kernel_rfl) (by rw [hb_1]; kernel_rfl) (by kernel_rfl) ?_
          refine ls_nil ?_
          refine then_normal ?_
          exact ⟨(fun i => ([undef, undef]).getD i undef), (.bool false), by kernel_rfl, HA, H⟩
        · rintro _ w_2 ⟨D_2, x15, rfl, HA_2, H⟩
          refine ls_assign (x := x15) (by kernel_rfl) (by kernel_rfl) ?_
          refine ls_nil ?_
          refine then_normal ?_
          refine fr_eq (b := ⟨#[x0, undef, (.bool false), x15, x0, x5, x5, (D 0), (D 1), x9, x0, x11, x11, (D_2 0), (D_2 1), x15, undef, undef, undef, undef, undef, undef, undef, undef], []⟩) (by kernel_rfl) ?_
          refine wp_if rfl H (fun H => ?_) (fun H => ?_)
          · refine wp_skip ?_
            exact ⟨(fun i => ([x0, x11, x11, (D_2 0), (D_2 1), x15, undef, undef, undef, undef, undef, undef]).getD i undef), x15, h, by kernel_rfl, HA_2, H⟩
          · refine lwp_list ?_
            refine ls_move (x := x0) (by kernel_rfl) (by kernel_rfl) ?_
            refine ls_p (d := some 17) (by kernel_rfl) (by kernel_rfl) (p_sGe (by kernel_rfl) (by kernel_rfl) H) (fun x17 H => ?_)
            refine ls_move (x := x17) (by kernel_rfl) (by kernel_rfl) ?_
            refine ls_and [(), (), ()] (fun K a w => ∃ (D_3 : Nat → Value) (x21 : Value), a = ⟨#[x0, undef, (.bool false), x15, x0, x5, x5, (D 0), (D 1), x9, x0, x11, x11, (D_2 0), (D_2 1), x15, x0, x17, x17, (D_3 0), (D_3 1), x21, undef, undef], []⟩ ∧ At w0 w h ∧ K x21) H (fun hb H => ?_) (fun hb H => ?_) ?_
            · refine ls_move (x := x0) (by rw [hb]; kernel_rfl) (by kernel_rfl) ?_
              refine ls_p (d := some 20) (by kernel_rfl) (by rw [hb]; kernel_rfl) (p_sLe (by kernel_rfl) (by kernel_rfl) H) (fun x20 H => ?_)
              refine ls_pick_t (x := x20) (by kernel_rfl) (by rw [hb]; kernel_rfl) (by kernel_rfl) ?_
              refine ls_nil ?_
              refine then_normal ?_
              exact ⟨(fun i => ([x0, x20]).getD i undef), x20, by kernel_rfl, HA_2, H⟩
            · refine ls_skip (d := some 19) (by kernel_rfl) (by rw [hb]; kernel_rfl) ?_
              refine ls_skip (d := some 20) (by kernel_rfl) (by rw [hb]; kernel_rfl) ?_
              refine ls_pick_f (y := (.bool false)) (by kernel_rfl) (by rw [hb]; kernel_rfl) (by kernel_rfl) ?_
              refine ls_nil ?_
              refine then_normal ?_
              exact ⟨(fun i => ([undef, undef]).getD i undef), (.bool false), by kernel_rfl, HA_2, H⟩
            · rintro _ w_3 ⟨D_3, x21, rfl, HA_3, H⟩
              refine ls_assign (x := x21) (by kernel_rfl) (by kernel_rfl) ?_
              refine ls_nil ?_
              exact ⟨(fun i => ([x0, x11, x11, (D_2 0), (D_2 1), x15, x0, x17, x17, (D_3 0), (D_3 1), x21]).getD i undef), x21, h, by kernel_rfl, HA_3, H⟩
    · rintro _ w_1 ⟨D_1, x3, h, rfl, HA_1, H⟩
      unfold scan_known_j1 at H
      refine then_normal ?_
      refine fr_eq (b := ⟨#[x0, undef, (.bool false), x3, x0, x5, x5, (D 0), (D 1), x9, (D_1 0), (D_1 1), (D_1 2), (D_1 3), (D_1 4), (D_1 5), (D_1 6), (D_1 7), (D_1 8), (D_1 9), (D_1 10), (D_1 11), undef, undef], []⟩) (by kernel_rfl) ?_
      refine wp_if rfl H (fun H => ?_) (fun H => ?_)
      · refine wp_seq ?_
        refine lwp_list ?_
        refine ls_assign (x := (.bool true)) (by kernel_rfl) (by kernel_rfl) ?_
        refine ls_nil ?_
        refine then_normal ?_
        refine fr_eq (b := ⟨#[x0, undef, (.bool true), x3, x0, x5, x5, (D 0), (D 1), x9, (D_1 0), (D_1 1), (D_1 2), (D_1 3), (D_1 4), (D_1 5), (D_1 6), (D_1 7), (D_1 8), (D_1 9), (D_1 10), (D_1 11), undef, undef], []⟩) (by kernel_rfl) ?_
        refine wp_ret ?_
        refine block_ret ?_
        refine then_ret ?_
        exact end1 (Try.results40) (by kernel_rfl) (by kernel_rfl) HA_1 H _ (.inr rfl)
      · refine wp_skip ?_
        refine block_normal ?_
        refine then_normal ?_
        refine fr_eq (b := ⟨#[x0, undef, (.bool false), x3, x0, x5, x5, (D 0), (D 1), x9, (D_1 0), (D_1 1), (D_1 2), (D_1 3), (D_1 4), (D_1 5), (D_1 6), (D_1 7), (D_1 8), (D_1 9), (D_1 10), (D_1 11), undef, undef], []⟩) (by kernel_rfl) ?_
        refine wp_seq ?_
        refine lwp_list ?_
        refine ls_move (x := x0) (by kernel_rfl) (by kernel_rfl) ?_
        refine ls_p (d := some 23) (by kernel_rfl) (by kernel_rfl) (p_sEq (by kernel_rfl) (by kernel_rfl) H) (fun x23 H => ?_)
        refine ls_assign (x := x23) (by kernel_rfl) (by kernel_rfl) ?_
        refine ls_nil ?_
        refine then_normal ?_
        refine fr_eq (b := ⟨#[x0, undef, x23, x3, x0, x5, x5, (D 0), (D 1), x9, (D_1 0), (D_1 1), (D_1 2), (D_1 3), (D_1 4), (D_1 5), (D_1 6), (D_1 7), (D_1 8), (D_1 9), (D_1 10), (D_1 11), x0, x23], []⟩) (by kernel_rfl) ?_
        refine wp_ret ?_
        exact end1 (Try.results40) (by kernel_rfl) (by kernel_rfl) HA_1 H _ (.inr rfl)

end Go.Proofs.Ytbgipcikkedloaa
