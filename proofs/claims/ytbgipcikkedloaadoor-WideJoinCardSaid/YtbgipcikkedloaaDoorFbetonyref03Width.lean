/- The shallow reading of one function, and that the function does it. Written by a program. -/
import Derived.Test.YtbgipcikkedloaaDoorFnC
set_option linter.unusedVariables false
namespace Go.Proofs.YtbgipcikkedloaaDoor
open Go Go.HW

def betonyref03_Width_S (x0 : Value) (h : Heap) (R : Value → Heap → Prop) : Prop :=
  sLt x0 (.int .i64 32) fun x4 =>
  sOr x4 (fun k_1 =>
  sGe x0 (.int .i64 127) fun x7 =>
  sAnd x7 (fun k_2 =>
  sLe x0 (.int .i64 159) fun x10 =>
  k_2 x10) fun x11 =>
  k_1 x11) fun x12 =>
  sOr x12 (fun k =>
  sGt x0 (.int .i64 1114111) fun x15 =>
  k x15) fun x16 =>
  sIf x16 (R (.int .i64 (-1)) h) (sSlit h #[.int .i64 0, .int .i64 0, .int .i64 0, .int .i64 0, .int .i64 0, .int .i64 0, .int .i64 0, .int .i64 0, .int .i64 0, .int .i64 0, .int .i64 0, .int .i64 0, .int .i64 0, .int .i64 0, .int .i64 0, .int .i64 0, .int .i64 0, .int .i64 0] [(0, 1, (.int .i64 768)), (1, 1, (.int .i64 879)), (2, 1, (.int .i64 1155)), (3, 1, (.int .i64 1161)), (4, 1, (.int .i64 1425)), (5, 1, (.int .i64 1469)), (6, 1, (.int .i64 1552)), (7, 1, (.int .i64 1562)), (8, 1, (.int .i64 1611)), (9, 1, (.int .i64 1631)), (10, 1, (.int .i64 8203)), (11, 1, (.int .i64 8207)), (12, 1, (.int .i64 8400)), (13, 1, (.int .i64 8432)), (14, 1, (.int .i64 65024)), (15, 1, (.int .i64 65039)), (16, 1, (.int .i64 65056)), (17, 1, (.int .i64 65071))] 3 18 fun x17 h => 
  betonyref03_in_c x17 x0 h fun x19 h_1 => 
  sIf x19 (R (.int .i64 0) h_1) (sSlit h_1 #[.int .i64 0, .int .i64 0, .int .i64 0, .int .i64 0, .int .i64 0, .int .i64 0, .int .i64 0, .int .i64 0, .int .i64 0, .int .i64 0, .int .i64 0, .int .i64 0, .int .i64 0, .int .i64 0, .int .i64 0, .int .i64 0, .int .i64 0, .int .i64 0, .int .i64 0, .int .i64 0, .int .i64 0, .int .i64 0, .int .i64 0, .int .i64 0, .int .i64 0, .int .i64 0, .int .i64 0, .int .i64 0] [(0, 1, (.int .i64 4352)), (1, 1, (.int .i64 4447)), (2, 1, (.int .i64 11904)), (3, 1, (.int .i64 12350)), (4, 1, (.int .i64 12353)), (5, 1, (.int .i64 13311)), (6, 1, (.int .i64 13312)), (7, 1, (.int .i64 19903)), (8, 1, (.int .i64 19968)), (9, 1, (.int .i64 40959)), (10, 1, (.int .i64 40960)), (11, 1, (.int .i64 42191)), (12, 1, (.int .i64 44032)), (13, 1, (.int .i64 55203)), (14, 1, (.int .i64 63744)), (15, 1, (.int .i64 64255)), (16, 1, (.int .i64 65072)), (17, 1, (.int .i64 65135)), (18, 1, (.int .i64 65280)), (19, 1, (.int .i64 65376)), (20, 1, (.int .i64 65504)), (21, 1, (.int .i64 65510)), (22, 1, (.int .i64 127744)), (23, 1, (.int .i64 128591)), (24, 1, (.int .i64 129280)), (25, 1, (.int .i64 129535)), (26, 1, (.int .i64 131072)), (27, 1, (.int .i64 262141))] 3 28 fun x20 h_2 => 
  betonyref03_in_c x20 x0 h_2 fun x22 h_3 => 
  sIf x22 (R (.int .i64 2) h_3) (R (.int .i64 1) h_3)))
set_option maxRecDepth 100000 in
theorem betonyref03_Width_runs {x0 : Value} {h : Heap} {R : Value → Heap → Prop} (H : betonyref03_Width_S x0 h R) : betonyref03_Width_c x0 h R := by
  unfold betonyref03_Width_S at H
  refine runs_of (b := ⟨#[x0, undef, undef, undef, undef, undef, undef, undef, undef, undef, undef, undef, undef, undef, undef, undef, undef, undef, undef, undef, undef, undef, undef], []⟩) Tryd.call7 Tryd.func7 rfl (by kernel_rfl) (fun w0 HA => ?_)
  refine wp_seq ?_
  refine lwp_list ?_
  refine ls_assign (x := (.int .i64 0)) (by kernel_rfl) (by kernel_rfl) ?_
  refine ls_nil ?_
  refine then_normal ?_
  refine fr_eq (b := ⟨#[x0, undef, (.int .i64 0), undef, undef, undef, undef, undef, undef, undef, undef, undef, undef, undef, undef, undef, undef, undef, undef, undef, undef, undef, undef], []⟩) (by kernel_rfl) ?_
  refine wp_seq ?_
  refine wp_seq ?_
  refine lwp_list ?_
  refine ls_move (x := x0) (by kernel_rfl) (by kernel_rfl) ?_
  refine ls_p (d := some 4) (by kernel_rfl) (by kernel_rfl) (p_sLt (by kernel_rfl) (by kernel_rfl) H) (fun x4 H => ?_)
  refine ls_move (x := x4) (by kernel_rfl) (by kernel_rfl) ?_
  refine ls_or [(), (), (), (), (), (), ()] (fun K a w => ∃ (D : Nat → Value) (x12 : Value), a = ⟨#[x0, undef, (.int .i64 0), x0, x4, x4, (D 0), (D 1), (D 2), (D 3), (D 4), (D 5), x12, undef, undef, undef, undef, undef, undef, undef, undef, undef, undef], []⟩ ∧ At w0 w h ∧ K x12) H (fun hb_1 H => ?_) (fun hb_1 H => ?_) ?_
  · refine ls_move (x := x0) (by rw [hb_1]; kernel_rfl) (by kernel_rfl) ?_
    refine ls_p (d := some 7) (by kernel_rfl) (by rw [hb_1]; kernel_rfl) (p_sGe (by kernel_rfl) (by kernel_rfl) H) (fun x7 H => ?_)
    refine ls_move (x := x7) (by rw [hb_1]; kernel_rfl) (by kernel_rfl) ?_
    refine ls_fr (b := ⟨#[x0, undef, (.int .i64 0), x0, x4, x4, x0, x7, x7, undef, undef, undef, undef, undef, undef, undef, undef, undef, undef, undef, undef, undef, undef], []⟩) (by kernel_rfl) ?_
    refine ls_and [(), (), ()] (fun K a w => ∃ (D_2 : Nat → Value) (x11 : Value), a = ⟨#[x0, undef, (.int .i64 0), x0, x4, x4, x0, x7, x7, (D_2 0), (D_2 1), x11, undef, undef, undef, undef, undef, undef, undef, undef, undef, undef, undef], []⟩ ∧ At w0 w h ∧ K x11) H (fun hb_2 H => ?_) (fun hb_2 H => ?_) ?_
    · refine ls_move (x := x0) (by rw [hb_2]; kernel_rfl) (by kernel_rfl) ?_
      refine ls_p (d := some 10) (by kernel_rfl) (by rw [hb_2]; kernel_rfl) (p_sLe (by kernel_rfl) (by kernel_rfl) H) (fun x10 H => ?_)
      refine ls_pick_t (x := x10) (by rw [hb_1]; kernel_rfl) (by rw [hb_2]; kernel_rfl) (by kernel_rfl) ?_
      refine ls_nil ?_
      refine then_normal ?_
      exact ⟨(fun i => ([x0, x10]).getD i undef), x10, by kernel_rfl, HA, H⟩
    · refine ls_skip (d := some 9) (by kernel_rfl) (by rw [hb_2]; kernel_rfl) ?_
      refine ls_skip (d := some 10) (by kernel_rfl) (by rw [hb_2]; kernel_rfl) ?_
      refine ls_pick_f (y := (.bool false)) (by rw [hb_1]; kernel_rfl) (by rw [hb_2]; kernel_rfl) (by kernel_rfl) ?_
      refine ls_nil ?_
      refine then_normal ?_
      exact ⟨(fun i => ([undef, undef]).getD i undef), (.bool false), by kernel_rfl, HA, H⟩
    · rintro _ w_6 ⟨D_2, x11, rfl, HA_6, H⟩
      refine ls_pick_f (y := x11) (by kernel_rfl) (by rw [hb_1]; kernel_rfl) (by kernel_rfl) ?_
      refine ls_nil ?_
      refine then_normal ?_
      exact ⟨(fun i => ([x0, x7, x7, (D_2 0), (D_2 1), x11]).getD i undef), x11, by kernel_rfl, HA_6, H⟩
  · refine ls_skip (d := some 6) (by kernel_rfl) (by rw [hb_1]; kernel_rfl) ?_
    refine ls_skip (d := some 7) (by kernel_rfl) (by rw [hb_1]; kernel_rfl) ?_
    refine ls_skip (d := some 8) (by kernel_rfl) (by rw [hb_1]; kernel_rfl) ?_
    refine ls_fr (b := ⟨#[x0, undef, (.int .i64 0), x0, x4, x4, undef, undef, undef, undef, undef, undef, undef, undef, undef, undef, undef, undef, undef, undef, undef, undef, undef], []⟩) (by kernel_rfl) ?_
    refine ls_skip (d := some 9) (by kernel_rfl) (by kernel_rfl) ?_
    refine ls_skip (d := some 10) (by kernel_rfl) (by kernel_rfl) ?_
    refine ls_skip (d := some 11) (by kernel_rfl) (by rw [hb_1]; kernel_rfl) ?_
    refine ls_pick_t (x := (.bool true)) (by kernel_rfl) (by rw [hb_1]; kernel_rfl) (by kernel_rfl) ?_
    refine ls_nil ?_
    refine then_normal ?_
    exact ⟨(fun i => ([undef, undef, undef, undef, undef, undef]).getD i undef), (.bool true), by kernel_rfl, HA, H⟩
  · rintro _ w ⟨D, x12, rfl, HA, H⟩
    refine ls_move (x := x12) (by kernel_rfl) (by kernel_rfl) ?_
    refine ls_or [(), (), ()] (fun K a w => ∃ (D_1 : Nat → Value) (x16 : Value), a = ⟨#[x0, undef, (.int .i64 0), x0, x4, x4, (D 0), (D 1), (D 2), (D 3), (D 4), (D 5), x12, x12, (D_1 0), (D_1 1), x16, undef, undef, undef, undef, undef, undef], []⟩ ∧ At w0 w h ∧ K x16) H (fun hb H => ?_) (fun hb H => ?_) ?_
    · refine ls_move (x := x0) (by rw [hb]; kernel_rfl) (by kernel_rfl) ?_
      refine ls_p (d := some 15) (by kernel_rfl) (by rw [hb]; kernel_rfl) (p_sGt (by kernel_rfl) (by kernel_rfl) H) (fun x15 H => ?_)
      refine ls_pick_f (y := x15) (by kernel_rfl) (by rw [hb]; kernel_rfl) (by kernel_rfl) ?_
      refine ls_nil ?_
      refine then_normal ?_
      exact ⟨(fun i => ([x0, x15]).getD i undef), x15, by kernel_rfl, HA, H⟩
    · refine ls_skip (d := some 14) (by kernel_rfl) (by rw [hb]; kernel_rfl) ?_
      refine ls_skip (d := some 15) (by kernel_rfl) (by rw [hb]; kernel_rfl) ?_
      refine ls_pick_t (x := (.bool true)) (by kernel_rfl) (by rw [hb]; kernel_rfl) (by kernel_rfl) ?_
      refine ls_nil ?_
      refine then_normal ?_
      exact ⟨(fun i => ([undef, undef]).getD i undef), (.bool true), by kernel_rfl, HA, H⟩
    · rintro _ w_1 ⟨D_1, x16, rfl, HA_1, H⟩
      refine ls_nil ?_
      refine then_normal ?_
      refine fr_eq (b := ⟨#[x0, undef, (.int .i64 0), x0, x4, x4, (D 0), (D 1), (D 2), (D 3), (D 4), (D 5), x12, x12, (D_1 0), (D_1 1), x16, undef, undef, undef, undef, undef, undef], []⟩) (by kernel_rfl) ?_
      refine wp_if rfl H (fun H => ?_) (fun H => ?_)
      · refine wp_seq ?_
        refine lwp_list ?_
        refine ls_assign (x := (.int .i64 (-1))) (by kernel_rfl) (by kernel_rfl) ?_
        refine ls_nil ?_
        refine then_normal ?_
        refine fr_eq (b := ⟨#[x0, undef, (.int .i64 (-1)), x0, x4, x4, (D 0), (D 1), (D 2), (D 3), (D 4), (D 5), x12, x12, (D_1 0), (D_1 1), x16, undef, undef, undef, undef, undef, undef], []⟩) (by kernel_rfl) ?_
        refine wp_ret ?_
        refine then_ret ?_
        exact end1 (Tryd.results7) (by kernel_rfl) (by kernel_rfl) HA_1 H _ (.inr rfl)
      · refine wp_skip ?_
        refine then_normal ?_
        refine fr_eq (b := ⟨#[x0, undef, (.int .i64 0), x0, x4, x4, (D 0), (D 1), (D 2), (D 3), (D 4), (D 5), x12, x12, (D_1 0), (D_1 1), x16, undef, undef, undef, undef, undef, undef], []⟩) (by kernel_rfl) ?_
        refine wp_seq ?_
        refine wp_seq ?_
        refine lwp_list ?_
        refine ls_d (d := some 17) (by kernel_rfl) (by kernel_rfl) HA_1 (d_slit (zc := #[.int .i64 0]) Tryd.underlying38 Tryd.sizeOf3 (by decide) (.inr ⟨by decide, _, Tryd.zeroValue3, (by kernel_rfl)⟩) (by kernel_rfl) (by kernel_rfl) H) (fun x17 h w_2 H HA_2 => ?_)
        refine ls_move (x := x0) (by kernel_rfl) (by kernel_rfl) ?_
        refine ls_d (d := some 19) (by kernel_rfl) (by kernel_rfl) HA_2 (d_call (by kernel_rfl) (by kernel_rfl) H) (fun x19 h_1 w_3 H HA_3 => ?_)
        refine ls_nil ?_
        refine then_normal ?_
        refine fr_eq (b := ⟨#[x0, undef, (.int .i64 0), x0, x4, x4, (D 0), (D 1), (D 2), (D 3), (D 4), (D 5), x12, x12, (D_1 0), (D_1 1), x16, x17, x0, x19, undef, undef, undef], []⟩) (by kernel_rfl) ?_
        refine wp_if rfl H (fun H => ?_) (fun H => ?_)
        · refine wp_seq ?_
          refine lwp_list ?_
          refine ls_assign (x := (.int .i64 0)) (by kernel_rfl) (by kernel_rfl) ?_
          refine ls_nil ?_
          refine then_normal ?_
          refine fr_eq (b := ⟨#[x0, undef, (.int .i64 0), x0, x4, x4, (D 0), (D 1), (D 2), (D 3), (D 4), (D 5), x12, x12, (D_1 0), (D_1 1), x16, x17, x0, x19, undef, undef, undef], []⟩) (by kernel_rfl) ?_
          refine wp_ret ?_
          refine then_ret ?_
          exact end1 (Tryd.results7) (by kernel_rfl) (by kernel_rfl) HA_3 H _ (.inr rfl)
        · refine wp_skip ?_
          refine then_normal ?_
          refine fr_eq (b := ⟨#[x0, undef, (.int .i64 0), x0, x4, x4, (D 0), (D 1), (D 2), (D 3), (D 4), (D 5), x12, x12, (D_1 0), (D_1 1), x16, x17, x0, x19, undef, undef, undef], []⟩) (by kernel_rfl) ?_
          refine wp_seq ?_
          refine wp_seq ?_
          refine lwp_list ?_
          refine ls_d (d := some 20) (by kernel_rfl) (by kernel_rfl) HA_3 (d_slit (zc := #[.int .i64 0]) Tryd.underlying38 Tryd.sizeOf3 (by decide) (.inr ⟨by decide, _, Tryd.zeroValue3, (by kernel_rfl)⟩) (by kernel_rfl) (by kernel_rfl) H) (fun x20 h_2 w_4 H HA_4 => ?_)
          refine ls_move (x := x0) (by kernel_rfl) (by kernel_rfl) ?_
          refine ls_d (d := some 22) (by kernel_rfl) (by kernel_rfl) HA_4 (d_call (by kernel_rfl) (by kernel_rfl) H) (fun x22 h_3 w_5 H HA_5 => ?_)
          refine ls_nil ?_
          refine then_normal ?_
          refine fr_eq (b := ⟨#[x0, undef, (.int .i64 0), x0, x4, x4, (D 0), (D 1), (D 2), (D 3), (D 4), (D 5), x12, x12, (D_1 0), (D_1 1), x16, x17, x0, x19, x20, x0, x22], []⟩) (by kernel_rfl) ?_
          refine wp_if rfl H (fun H => ?_) (fun H => ?_)
          · refine wp_seq ?_
            refine lwp_list ?_
            refine ls_assign (x := (.int .i64 2)) (by kernel_rfl) (by kernel_rfl) ?_
            refine ls_nil ?_
            refine then_normal ?_
            refine fr_eq (b := ⟨#[x0, undef, (.int .i64 2), x0, x4, x4, (D 0), (D 1), (D 2), (D 3), (D 4), (D 5), x12, x12, (D_1 0), (D_1 1), x16, x17, x0, x19, x20, x0, x22], []⟩) (by kernel_rfl) ?_
            refine wp_ret ?_
            refine then_ret ?_
            exact end1 (Tryd.results7) (by kernel_rfl) (by kernel_rfl) HA_5 H _ (.inr rfl)
          · refine wp_skip ?_
            refine then_normal ?_
            refine fr_eq (b := ⟨#[x0, undef, (.int .i64 0), x0, x4, x4, (D 0), (D 1), (D 2), (D 3), (D 4), (D 5), x12, x12, (D_1 0), (D_1 1), x16, x17, x0, x19, x20, x0, x22], []⟩) (by kernel_rfl) ?_
            refine wp_seq ?_
            refine lwp_list ?_
            refine ls_assign (x := (.int .i64 1)) (by kernel_rfl) (by kernel_rfl) ?_
            refine ls_nil ?_
            refine then_normal ?_
            refine fr_eq (b := ⟨#[x0, undef, (.int .i64 1), x0, x4, x4, (D 0), (D 1), (D 2), (D 3), (D 4), (D 5), x12, x12, (D_1 0), (D_1 1), x16, x17, x0, x19, x20, x0, x22], []⟩) (by kernel_rfl) ?_
            refine wp_ret ?_
            exact end1 (Tryd.results7) (by kernel_rfl) (by kernel_rfl) HA_5 H _ (.inr rfl)

end Go.Proofs.YtbgipcikkedloaaDoor
