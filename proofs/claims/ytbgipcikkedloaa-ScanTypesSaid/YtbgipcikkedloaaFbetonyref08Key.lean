/- The shallow reading of one function, and that the function does it. Written by a program. -/
import Derived.Test.YtbgipcikkedloaaFnC
set_option linter.unusedVariables false
namespace Go.Proofs.Ytbgipcikkedloaa
open Go Go.HW

def betonyref08_Key_S (x0 : Value) (h : Heap) (R : Value → Heap → Prop) : Prop :=
  sGe x0 (.int .i64 1) fun x4 =>
  sAnd x4 (fun k_5 =>
  sLe x0 (.int .i64 52) fun x7 =>
  k_5 x7) fun x8 =>
  sOr x8 (fun k_3 =>
  sGe x0 (.int .i64 64) fun x11 =>
  sAnd x11 (fun k_4 =>
  sLe x0 (.int .i64 73) fun x14 =>
  k_4 x14) fun x15 =>
  k_3 x15) fun x16 =>
  sOr x16 (fun k_1 =>
  sGe x0 (.int .i64 80) fun x19 =>
  sAnd x19 (fun k_2 =>
  sLe x0 (.int .i64 83) fun x22 =>
  k_2 x22) fun x23 =>
  k_1 x23) fun x24 =>
  sOr x24 (fun k =>
  sEq x0 (.int .i64 118) fun x27 =>
  k x27) fun x28 =>
  R x28 h
set_option maxRecDepth 100000 in
theorem betonyref08_Key_runs {x0 : Value} {h : Heap} {R : Value → Heap → Prop} (H : betonyref08_Key_S x0 h R) : betonyref08_Key_c x0 h R := by
  unfold betonyref08_Key_S at H
  refine runs_of (b := ⟨#[x0, undef, undef, undef, undef, undef, undef, undef, undef, undef, undef, undef, undef, undef, undef, undef, undef, undef, undef, undef, undef, undef, undef, undef, undef, undef, undef, undef, undef], []⟩) Try.call28 Try.func28 rfl (by kernel_rfl) (fun w0 HA => ?_)
  refine wp_seq ?_
  refine lwp_list ?_
  refine ls_assign (x := (.bool false)) (by kernel_rfl) (by kernel_rfl) ?_
  refine ls_nil ?_
  refine then_normal ?_
  refine fr_eq (b := ⟨#[x0, undef, (.bool false), undef, undef, undef, undef, undef, undef, undef, undef, undef, undef, undef, undef, undef, undef, undef, undef, undef, undef, undef, undef, undef, undef, undef, undef, undef, undef], []⟩) (by kernel_rfl) ?_
  refine wp_seq ?_
  refine lwp_list ?_
  refine ls_move (x := x0) (by kernel_rfl) (by kernel_rfl) ?_
  refine ls_p (d := some 4) (by kernel_rfl) (by kernel_rfl) (p_sGe (by kernel_rfl) (by kernel_rfl) H) (fun x4 H => ?_)
  refine ls_move (x := x4) (by kernel_rfl) (by kernel_rfl) ?_
  refine ls_and [(), (), ()] (fun K a w => ∃ (D : Nat → Value) (x8 : Value), a = ⟨#[x0, undef, (.bool false), x0, x4, x4, (D 0), (D 1), x8, undef, undef, undef, undef, undef, undef, undef, undef, undef, undef, undef, undef, undef, undef, undef, undef, undef, undef, undef, undef], []⟩ ∧ At w0 w h ∧ K x8) H (fun hb_5 H => ?_) (fun hb_5 H => ?_) ?_
  · refine ls_move (x := x0) (by rw [hb_5]; kernel_rfl) (by kernel_rfl) ?_
    refine ls_p (d := some 7) (by kernel_rfl) (by rw [hb_5]; kernel_rfl) (p_sLe (by kernel_rfl) (by kernel_rfl) H) (fun x7 H => ?_)
    refine ls_pick_t (x := x7) (by kernel_rfl) (by rw [hb_5]; kernel_rfl) (by kernel_rfl) ?_
    refine ls_nil ?_
    refine then_normal ?_
    exact ⟨(fun i => ([x0, x7]).getD i undef), x7, by kernel_rfl, HA, H⟩
  · refine ls_skip (d := some 6) (by kernel_rfl) (by rw [hb_5]; kernel_rfl) ?_
    refine ls_skip (d := some 7) (by kernel_rfl) (by rw [hb_5]; kernel_rfl) ?_
    refine ls_pick_f (y := (.bool false)) (by kernel_rfl) (by rw [hb_5]; kernel_rfl) (by kernel_rfl) ?_
    refine ls_nil ?_
    refine then_normal ?_
    exact ⟨(fun i => ([undef, undef]).getD i undef), (.bool false), by kernel_rfl, HA, H⟩
  · rintro _ w ⟨D, x8, rfl, HA, H⟩
    refine ls_move (x := x8) (by kernel_rfl) (by kernel_rfl) ?_
    refine ls_or [(), (), (), (), (), (), ()] (fun K a w => ∃ (D_1 : Nat → Value) (x16 : Value), a = ⟨#[x0, undef, (.bool false), x0, x4, x4, (D 0), (D 1), x8, x8, (D_1 0), (D_1 1), (D_1 2), (D_1 3), (D_1 4), (D_1 5), x16, undef, undef, undef, undef, undef, undef, undef, undef, undef, undef, undef, undef], []⟩ ∧ At w0 w h ∧ K x16) H (fun hb_3 H => ?_) (fun hb_3 H => ?_) ?_
    · refine ls_move (x := x0) (by rw [hb_3]; kernel_rfl) (by kernel_rfl) ?_
      refine ls_p (d := some 11) (by kernel_rfl) (by rw [hb_3]; kernel_rfl) (p_sGe (by kernel_rfl) (by kernel_rfl) H) (fun x11 H => ?_)
      refine ls_move (x := x11) (by rw [hb_3]; kernel_rfl) (by kernel_rfl) ?_
      refine ls_and [(), (), ()] (fun K a w => ∃ (D_5 : Nat → Value) (x15 : Value), a = ⟨#[x0, undef, (.bool false), x0, x4, x4, (D 0), (D 1), x8, x8, x0, x11, x11, (D_5 0), (D_5 1), x15, undef, undef, undef, undef, undef, undef, undef, undef, undef, undef, undef, undef, undef], []⟩ ∧ At w0 w h ∧ K x15) H (fun hb_4 H => ?_) (fun hb_4 H => ?_) ?_
      · refine ls_move (x := x0) (by rw [hb_4]; kernel_rfl) (by kernel_rfl) ?_
        refine ls_p (d := some 14) (by kernel_rfl) (by rw [hb_4]; kernel_rfl) (p_sLe (by kernel_rfl) (by kernel_rfl) H) (fun x14 H => ?_)
        refine ls_fr (b := ⟨#[x0, undef, (.bool false), x0, x4, x4, (D 0), (D 1), x8, x8, x0, x11, x11, x0, x14, undef, undef, undef, undef, undef, undef, undef, undef, undef, undef, undef, undef, undef, undef], []⟩) (by kernel_rfl) ?_
        refine ls_pick_t (x := x14) (by rw [hb_3]; kernel_rfl) (by rw [hb_4]; kernel_rfl) (by kernel_rfl) ?_
        refine ls_nil ?_
        refine then_normal ?_
        exact ⟨(fun i => ([x0, x14]).getD i undef), x14, by kernel_rfl, HA, H⟩
      · refine ls_skip (d := some 13) (by kernel_rfl) (by rw [hb_4]; kernel_rfl) ?_
        refine ls_skip (d := some 14) (by kernel_rfl) (by rw [hb_4]; kernel_rfl) ?_
        refine ls_fr (b := ⟨#[x0, undef, (.bool false), x0, x4, x4, (D 0), (D 1), x8, x8, x0, x11, x11, undef, undef, undef, undef, undef, undef, undef, undef, undef, undef, undef, undef, undef, undef, undef, undef], []⟩) (by kernel_rfl) ?_
        refine ls_pick_f (y := (.bool false)) (by rw [hb_3]; kernel_rfl) (by rw [hb_4]; kernel_rfl) (by kernel_rfl) ?_
        refine ls_nil ?_
        refine then_normal ?_
        exact ⟨(fun i => ([undef, undef]).getD i undef), (.bool false), by kernel_rfl, HA, H⟩
      · rintro _ w_5 ⟨D_5, x15, rfl, HA_5, H⟩
        refine ls_pick_f (y := x15) (by kernel_rfl) (by rw [hb_3]; kernel_rfl) (by kernel_rfl) ?_
        refine ls_nil ?_
        refine then_normal ?_
        exact ⟨(fun i => ([x0, x11, x11, (D_5 0), (D_5 1), x15]).getD i undef), x15, by kernel_rfl, HA_5, H⟩
    · refine ls_skip (d := some 10) (by kernel_rfl) (by rw [hb_3]; kernel_rfl) ?_
      refine ls_skip (d := some 11) (by kernel_rfl) (by rw [hb_3]; kernel_rfl) ?_
      refine ls_skip (d := some 12) (by kernel_rfl) (by rw [hb_3]; kernel_rfl) ?_
      refine ls_skip (d := some 13) (by kernel_rfl) (by kernel_rfl) ?_
      refine ls_skip (d := some 14) (by kernel_rfl) (by kernel_rfl) ?_
      refine ls_fr (b := ⟨#[x0, undef, (.bool false), x0, x4, x4, (D 0), (D 1), x8, x8, undef, undef, undef, undef, undef, undef, undef, undef, undef, undef, undef, undef, undef, undef, undef, undef, undef, undef, undef], []⟩) (by kernel_rfl) ?_
      refine ls_skip (d := some 15) (by kernel_rfl) (by rw [hb_3]; kernel_rfl) ?_
      refine ls_pick_t (x := (.bool true)) (by kernel_rfl) (by rw [hb_3]; kernel_rfl) (by kernel_rfl) ?_
      refine ls_nil ?_
      refine then_normal ?_
      exact ⟨(fun i => ([undef, undef, undef, undef, undef, undef]).getD i undef), (.bool true), by kernel_rfl, HA, H⟩
    · rintro _ w_1 ⟨D_1, x16, rfl, HA_1, H⟩
      refine ls_move (x := x16) (by kernel_rfl) (by kernel_rfl) ?_
      refine ls_or [(), (), (), (), (), (), ()] (fun K a w => ∃ (D_2 : Nat → Value) (x24 : Value), a = ⟨#[x0, undef, (.bool false), x0, x4, x4, (D 0), (D 1), x8, x8, (D_1 0), (D_1 1), (D_1 2), (D_1 3), (D_1 4), (D_1 5), x16, x16, (D_2 0), (D_2 1), (D_2 2), (D_2 3), (D_2 4), (D_2 5), x24, undef, undef, undef, undef], []⟩ ∧ At w0 w h ∧ K x24) H (fun hb_1 H => ?_) (fun hb_1 H => ?_) ?_
      · refine ls_move (x := x0) (by rw [hb_1]; kernel_rfl) (by kernel_rfl) ?_
        refine ls_p (d := some 19) (by kernel_rfl) (by rw [hb_1]; kernel_rfl) (p_sGe (by kernel_rfl) (by kernel_rfl) H) (fun x19 H => ?_)
        refine ls_move (x := x19) (by rw [hb_1]; kernel_rfl) (by kernel_rfl) ?_
        refine ls_and [(), (), ()] (fun K a w => ∃ (D_4 : Nat → Value) (x23 : Value), a = ⟨#[x0, undef, (.bool false), x0, x4, x4, (D 0), (D 1), x8, x8, (D_1 0), (D_1 1), (D_1 2), (D_1 3), (D_1 4), (D_1 5), x16, x16, x0, x19, x19, (D_4 0), (D_4 1), x23, undef, undef, undef, undef, undef], []⟩ ∧ At w0 w h ∧ K x23) H (fun hb_2 H => ?_) (fun hb_2 H => ?_) ?_
        · refine ls_move (x := x0) (by rw [hb_2]; kernel_rfl) (by kernel_rfl) ?_
          refine ls_p (d := some 22) (by kernel_rfl) (by rw [hb_2]; kernel_rfl) (p_sLe (by kernel_rfl) (by kernel_rfl) H) (fun x22 H => ?_)
          refine ls_fr (b := ⟨#[x0, undef, (.bool false), x0, x4, x4, (D 0), (D 1), x8, x8, (D_1 0), (D_1 1), (D_1 2), (D_1 3), (D_1 4), (D_1 5), x16, x16, x0, x19, x19, x0, x22, undef, undef, undef, undef, undef, undef], []⟩) (by kernel_rfl) ?_
          refine ls_pick_t (x := x22) (by rw [hb_1]; kernel_rfl) (by rw [hb_2]; kernel_rfl) (by kernel_rfl) ?_
          refine ls_nil ?_
          refine then_normal ?_
          exact ⟨(fun i => ([x0, x22]).getD i undef), x22, by kernel_rfl, HA_1, H⟩
        · refine ls_skip (d := some 21) (by kernel_rfl) (by rw [hb_2]; kernel_rfl) ?_
          refine ls_skip (d := some 22) (by kernel_rfl) (by rw [hb_2]; kernel_rfl) ?_
          refine ls_fr (b := ⟨#[x0, undef, (.bool false), x0, x4, x4, (D 0), (D 1), x8, x8, (D_1 0), (D_1 1), (D_1 2), (D_1 3), (D_1 4), (D_1 5), x16, x16, x0, x19, x19, undef, undef, undef, undef, undef, undef, undef, undef], []⟩) (by kernel_rfl) ?_
          refine ls_pick_f (y := (.bool false)) (by rw [hb_1]; kernel_rfl) (by rw [hb_2]; kernel_rfl) (by kernel_rfl) ?_
          refine ls_nil ?_
          refine then_normal ?_
          exact ⟨(fun i => ([undef, undef]).getD i undef), (.bool false), by kernel_rfl, HA_1, H⟩
        · rintro _ w_4 ⟨D_4, x23, rfl, HA_4, H⟩
          refine ls_pick_f (y := x23) (by kernel_rfl) (by rw [hb_1]; kernel_rfl) (by kernel_rfl) ?_
          refine ls_nil ?_
          refine then_normal ?_
          exact ⟨(fun i => ([x0, x19, x19, (D_4 0), (D_4 1), x23]).getD i undef), x23, by kernel_rfl, HA_4, H⟩
      · refine ls_skip (d := some 18) (by kernel_rfl) (by rw [hb_1]; kernel_rfl) ?_
        refine ls_skip (d := some 19) (by kernel_rfl) (by rw [hb_1]; kernel_rfl) ?_
        refine ls_skip (d := some 20) (by kernel_rfl) (by rw [hb_1]; kernel_rfl) ?_
        refine ls_skip (d := some 21) (by kernel_rfl) (by kernel_rfl) ?_
        refine ls_skip (d := some 22) (by kernel_rfl) (by kernel_rfl) ?_
        refine ls_fr (b := ⟨#[x0, undef, (.bool false), x0, x4, x4, (D 0), (D 1), x8, x8, (D_1 0), (D_1 1), (D_1 2), (D_1 3), (D_1 4), (D_1 5), x16, x16, undef, undef, undef, undef, undef, undef, undef, undef, undef, undef, undef], []⟩) (by kernel_rfl) ?_
        refine ls_skip (d := some 23) (by kernel_rfl) (by rw [hb_1]; kernel_rfl) ?_
        refine ls_pick_t (x := (.bool true)) (by kernel_rfl) (by rw [hb_1]; kernel_rfl) (by kernel_rfl) ?_
        refine ls_nil ?_
        refine then_normal ?_
        exact ⟨(fun i => ([undef, undef, undef, undef, undef, undef]).getD i undef), (.bool true), by kernel_rfl, HA_1, H⟩
      · rintro _ w_2 ⟨D_2, x24, rfl, HA_2, H⟩
        refine ls_move (x := x24) (by kernel_rfl) (by kernel_rfl) ?_
        refine ls_or [(), (), ()] (fun K a w => ∃ (D_3 : Nat → Value) (x28 : Value), a = ⟨#[x0, undef, (.bool false), x0, x4, x4, (D 0), (D 1), x8, x8, (D_1 0), (D_1 1), (D_1 2), (D_1 3), (D_1 4), (D_1 5), x16, x16, (D_2 0), (D_2 1), (D_2 2), (D_2 3), (D_2 4), (D_2 5), x24, x24, (D_3 0), (D_3 1), x28], []⟩ ∧ At w0 w h ∧ K x28) H (fun hb H => ?_) (fun hb H => ?_) ?_
        · refine ls_move (x := x0) (by rw [hb]; kernel_rfl) (by kernel_rfl) ?_
          refine ls_p (d := some 27) (by kernel_rfl) (by rw [hb]; kernel_rfl) (p_sEq (by kernel_rfl) (by kernel_rfl) H) (fun x27 H => ?_)
          refine ls_pick_f (y := x27) (by kernel_rfl) (by rw [hb]; kernel_rfl) (by kernel_rfl) ?_
          refine ls_nil ?_
          refine then_normal ?_
          exact ⟨(fun i => ([x0, x27]).getD i undef), x27, by kernel_rfl, HA_2, H⟩
        · refine ls_skip (d := some 26) (by kernel_rfl) (by rw [hb]; kernel_rfl) ?_
          refine ls_skip (d := some 27) (by kernel_rfl) (by rw [hb]; kernel_rfl) ?_
          refine ls_pick_t (x := (.bool true)) (by kernel_rfl) (by rw [hb]; kernel_rfl) (by kernel_rfl) ?_
          refine ls_nil ?_
          refine then_normal ?_
          exact ⟨(fun i => ([undef, undef]).getD i undef), (.bool true), by kernel_rfl, HA_2, H⟩
        · rintro _ w_3 ⟨D_3, x28, rfl, HA_3, H⟩
          refine ls_assign (x := x28) (by kernel_rfl) (by kernel_rfl) ?_
          refine ls_nil ?_
          refine then_normal ?_
          refine fr_eq (b := ⟨#[x0, undef, x28, x0, x4, x4, (D 0), (D 1), x8, x8, (D_1 0), (D_1 1), (D_1 2), (D_1 3), (D_1 4), (D_1 5), x16, x16, (D_2 0), (D_2 1), (D_2 2), (D_2 3), (D_2 4), (D_2 5), x24, x24, (D_3 0), (D_3 1), x28], []⟩) (by kernel_rfl) ?_
          refine wp_ret ?_
          exact end1 (Try.results28) (by kernel_rfl) (by kernel_rfl) HA_3 H _ (.inr rfl)

end Go.Proofs.Ytbgipcikkedloaa
