/- The shallow reading of one function, and that the function does it. Written by a program. -/
import Derived.Test.YtjlpgakoedigoaaDoorFnC
set_option linter.unusedVariables false
namespace Go.Proofs.YtjlpgakoedigoaaDoor
open Go Go.HW

def betonyref02_Put_S (x0 : Value) (h : Heap) (R : Value → Heap → Prop) : Prop :=
  sGe x0 (.int .i64 0) fun x4 =>
  sAnd x4 (fun k_3 =>
  sLt x0 (.int .i64 128) fun x7 =>
  k_3 x7) fun x8 =>
  sIf x8 (sConv .u8 x0 fun x10 =>
  sSlit h #[.int .u8 0] [(0, 1, x10)] 5 1 fun x11 h => 
  R x11 h) (sLt x0 (.int .i64 0) fun x13 =>
  sOr x13 (fun k_2 =>
  sGt x0 (.int .i64 1114111) fun x16 =>
  k_2 x16) fun x17 =>
  sOr x17 (fun k =>
  sGe x0 (.int .i64 55296) fun x20 =>
  sAnd x20 (fun k_1 =>
  sLe x0 (.int .i64 57343) fun x23 =>
  k_1 x23) fun x24 =>
  k x24) fun x25 =>
  sIf x25 (sSlit h #[.int .u8 0, .int .u8 0, .int .u8 0] [(0, 1, (.int .u8 239)), (1, 1, (.int .u8 191)), (2, 1, (.int .u8 189))] 5 3 fun x26 h_1 => 
  R x26 h_1) (betonyref02_Form_c x0 h fun x28 h_2 => 
  R x28 h_2))
set_option maxRecDepth 100000 in
theorem betonyref02_Put_runs {x0 : Value} {h : Heap} {R : Value → Heap → Prop} (H : betonyref02_Put_S x0 h R) : betonyref02_Put_c x0 h R := by
  unfold betonyref02_Put_S at H
  refine runs_of (b := ⟨#[x0, undef, undef, undef, undef, undef, undef, undef, undef, undef, undef, undef, undef, undef, undef, undef, undef, undef, undef, undef, undef, undef, undef, undef, undef, undef, undef, undef, undef], []⟩) Tryd.call24 Tryd.func24 rfl (by kernel_rfl) (fun w0 HA => ?_)
  refine wp_seq ?_
  refine lwp_list ?_
  refine ls_assign (x := (.slice none 0 0)) (by kernel_rfl) (by kernel_rfl) ?_
  refine ls_nil ?_
  refine then_normal ?_
  refine fr_eq (b := ⟨#[x0, undef, (.slice none 0 0), undef, undef, undef, undef, undef, undef, undef, undef, undef, undef, undef, undef, undef, undef, undef, undef, undef, undef, undef, undef, undef, undef, undef, undef, undef, undef], []⟩) (by kernel_rfl) ?_
  refine wp_seq ?_
  refine wp_seq ?_
  refine lwp_list ?_
  refine ls_move (x := x0) (by kernel_rfl) (by kernel_rfl) ?_
  refine ls_p (d := some 4) (by kernel_rfl) (by kernel_rfl) (p_sGe (by kernel_rfl) (by kernel_rfl) H) (fun x4 H => ?_)
  refine ls_move (x := x4) (by kernel_rfl) (by kernel_rfl) ?_
  refine ls_and [(), (), ()] (fun K a w => ∃ (D : Nat → Value) (x8 : Value), a = ⟨#[x0, undef, (.slice none 0 0), x0, x4, x4, (D 0), (D 1), x8, undef, undef, undef, undef, undef, undef, undef, undef, undef, undef, undef, undef, undef, undef, undef, undef, undef, undef, undef, undef], []⟩ ∧ At w0 w h ∧ K x8) H (fun hb_3 H => ?_) (fun hb_3 H => ?_) ?_
  · refine ls_move (x := x0) (by rw [hb_3]; kernel_rfl) (by kernel_rfl) ?_
    refine ls_p (d := some 7) (by kernel_rfl) (by rw [hb_3]; kernel_rfl) (p_sLt (by kernel_rfl) (by kernel_rfl) H) (fun x7 H => ?_)
    refine ls_pick_t (x := x7) (by kernel_rfl) (by rw [hb_3]; kernel_rfl) (by kernel_rfl) ?_
    refine ls_nil ?_
    refine then_normal ?_
    exact ⟨(fun i => ([x0, x7]).getD i undef), x7, by kernel_rfl, HA, H⟩
  · refine ls_skip (d := some 6) (by kernel_rfl) (by rw [hb_3]; kernel_rfl) ?_
    refine ls_skip (d := some 7) (by kernel_rfl) (by rw [hb_3]; kernel_rfl) ?_
    refine ls_pick_f (y := (.bool false)) (by kernel_rfl) (by rw [hb_3]; kernel_rfl) (by kernel_rfl) ?_
    refine ls_nil ?_
    refine then_normal ?_
    exact ⟨(fun i => ([undef, undef]).getD i undef), (.bool false), by kernel_rfl, HA, H⟩
  · rintro _ w ⟨D, x8, rfl, HA, H⟩
    refine ls_nil ?_
    refine then_normal ?_
    refine fr_eq (b := ⟨#[x0, undef, (.slice none 0 0), x0, x4, x4, (D 0), (D 1), x8, undef, undef, undef, undef, undef, undef, undef, undef, undef, undef, undef, undef, undef, undef, undef, undef, undef, undef, undef, undef], []⟩) (by kernel_rfl) ?_
    refine wp_if rfl H (fun H => ?_) (fun H => ?_)
    · refine wp_seq ?_
      refine lwp_list ?_
      refine ls_move (x := x0) (by kernel_rfl) (by kernel_rfl) ?_
      refine ls_p (d := some 10) (by kernel_rfl) (by kernel_rfl) (p_conv Tryd.underlying3 Tryd.underlying5 (by kernel_rfl) H) (fun x10 H => ?_)
      refine ls_d (d := some 11) (by kernel_rfl) (by kernel_rfl) HA (d_slit (zc := #[.int .u8 0]) Tryd.underlying43 Tryd.sizeOf5 (by decide) (.inr ⟨by decide, _, Tryd.zeroValue5, (by kernel_rfl)⟩) (by kernel_rfl) (by kernel_rfl) H) (fun x11 h w_1 H HA_1 => ?_)
      refine ls_assign (x := x11) (by kernel_rfl) (by kernel_rfl) ?_
      refine ls_nil ?_
      refine then_normal ?_
      refine fr_eq (b := ⟨#[x0, undef, x11, x0, x4, x4, (D 0), (D 1), x8, x0, x10, x11, undef, undef, undef, undef, undef, undef, undef, undef, undef, undef, undef, undef, undef, undef, undef, undef, undef], []⟩) (by kernel_rfl) ?_
      refine wp_ret ?_
      refine then_ret ?_
      exact end1 (Tryd.results24) (by kernel_rfl) (by kernel_rfl) HA_1 H _ (.inr rfl)
    · refine wp_skip ?_
      refine then_normal ?_
      refine fr_eq (b := ⟨#[x0, undef, (.slice none 0 0), x0, x4, x4, (D 0), (D 1), x8, undef, undef, undef, undef, undef, undef, undef, undef, undef, undef, undef, undef, undef, undef, undef, undef, undef, undef, undef, undef], []⟩) (by kernel_rfl) ?_
      refine wp_seq ?_
      refine wp_seq ?_
      refine lwp_list ?_
      refine ls_move (x := x0) (by kernel_rfl) (by kernel_rfl) ?_
      refine ls_p (d := some 13) (by kernel_rfl) (by kernel_rfl) (p_sLt (by kernel_rfl) (by kernel_rfl) H) (fun x13 H => ?_)
      refine ls_move (x := x13) (by kernel_rfl) (by kernel_rfl) ?_
      refine ls_or [(), (), ()] (fun K a w => ∃ (D_1 : Nat → Value) (x17 : Value), a = ⟨#[x0, undef, (.slice none 0 0), x0, x4, x4, (D 0), (D 1), x8, undef, undef, undef, x0, x13, x13, (D_1 0), (D_1 1), x17, undef, undef, undef, undef, undef, undef, undef, undef, undef, undef, undef], []⟩ ∧ At w0 w h ∧ K x17) H (fun hb_2 H => ?_) (fun hb_2 H => ?_) ?_
      · refine ls_move (x := x0) (by rw [hb_2]; kernel_rfl) (by kernel_rfl) ?_
        refine ls_p (d := some 16) (by kernel_rfl) (by rw [hb_2]; kernel_rfl) (p_sGt (by kernel_rfl) (by kernel_rfl) H) (fun x16 H => ?_)
        refine ls_pick_f (y := x16) (by kernel_rfl) (by rw [hb_2]; kernel_rfl) (by kernel_rfl) ?_
        refine ls_nil ?_
        refine then_normal ?_
        exact ⟨(fun i => ([x0, x16]).getD i undef), x16, by kernel_rfl, HA, H⟩
      · refine ls_skip (d := some 15) (by kernel_rfl) (by rw [hb_2]; kernel_rfl) ?_
        refine ls_skip (d := some 16) (by kernel_rfl) (by rw [hb_2]; kernel_rfl) ?_
        refine ls_pick_t (x := (.bool true)) (by kernel_rfl) (by rw [hb_2]; kernel_rfl) (by kernel_rfl) ?_
        refine ls_nil ?_
        refine then_normal ?_
        exact ⟨(fun i => ([undef, undef]).getD i undef), (.bool true), by kernel_rfl, HA, H⟩
      · rintro _ w_2 ⟨D_1, x17, rfl, HA_2, H⟩
        refine ls_move (x := x17) (by kernel_rfl) (by kernel_rfl) ?_
        refine ls_or [(), (), (), (), (), (), ()] (fun K a w => ∃ (D_2 : Nat → Value) (x25 : Value), a = ⟨#[x0, undef, (.slice none 0 0), x0, x4, x4, (D 0), (D 1), x8, undef, undef, undef, x0, x13, x13, (D_1 0), (D_1 1), x17, x17, (D_2 0), (D_2 1), (D_2 2), (D_2 3), (D_2 4), (D_2 5), x25, undef, undef, undef], []⟩ ∧ At w0 w h ∧ K x25) H (fun hb H => ?_) (fun hb H => ?_) ?_
        · refine ls_move (x := x0) (by rw [hb]; kernel_rfl) (by kernel_rfl) ?_
          refine ls_p (d := some 20) (by kernel_rfl) (by rw [hb]; kernel_rfl) (p_sGe (by kernel_rfl) (by kernel_rfl) H) (fun x20 H => ?_)
          refine ls_move (x := x20) (by rw [hb]; kernel_rfl) (by kernel_rfl) ?_
          refine ls_and [(), (), ()] (fun K a w => ∃ (D_3 : Nat → Value) (x24 : Value), a = ⟨#[x0, undef, (.slice none 0 0), x0, x4, x4, (D 0), (D 1), x8, undef, undef, undef, x0, x13, x13, (D_1 0), (D_1 1), x17, x17, x0, x20, x20, (D_3 0), (D_3 1), x24, undef, undef, undef, undef], []⟩ ∧ At w0 w h ∧ K x24) H (fun hb_1 H => ?_) (fun hb_1 H => ?_) ?_
          · refine ls_move (x := x0) (by rw [hb_1]; kernel_rfl) (by kernel_rfl) ?_
            refine ls_p (d := some 23) (by kernel_rfl) (by rw [hb_1]; kernel_rfl) (p_sLe (by kernel_rfl) (by kernel_rfl) H) (fun x23 H => ?_)
            refine ls_fr (b := ⟨#[x0, undef, (.slice none 0 0), x0, x4, x4, (D 0), (D 1), x8, undef, undef, undef, x0, x13, x13, (D_1 0), (D_1 1), x17, x17, x0, x20, x20, x0, x23, undef, undef, undef, undef, undef], []⟩) (by kernel_rfl) ?_
            refine ls_pick_t (x := x23) (by rw [hb]; kernel_rfl) (by rw [hb_1]; kernel_rfl) (by kernel_rfl) ?_
            refine ls_nil ?_
            refine then_normal ?_
            exact ⟨(fun i => ([x0, x23]).getD i undef), x23, by kernel_rfl, HA_2, H⟩
          · refine ls_skip (d := some 22) (by kernel_rfl) (by rw [hb_1]; kernel_rfl) ?_
            refine ls_skip (d := some 23) (by kernel_rfl) (by rw [hb_1]; kernel_rfl) ?_
            refine ls_fr (b := ⟨#[x0, undef, (.slice none 0 0), x0, x4, x4, (D 0), (D 1), x8, undef, undef, undef, x0, x13, x13, (D_1 0), (D_1 1), x17, x17, x0, x20, x20, undef, undef, undef, undef, undef, undef, undef], []⟩) (by kernel_rfl) ?_
            refine ls_pick_f (y := (.bool false)) (by rw [hb]; kernel_rfl) (by rw [hb_1]; kernel_rfl) (by kernel_rfl) ?_
            refine ls_nil ?_
            refine then_normal ?_
            exact ⟨(fun i => ([undef, undef]).getD i undef), (.bool false), by kernel_rfl, HA_2, H⟩
          · rintro _ w_6 ⟨D_3, x24, rfl, HA_6, H⟩
            refine ls_pick_f (y := x24) (by kernel_rfl) (by rw [hb]; kernel_rfl) (by kernel_rfl) ?_
            refine ls_nil ?_
            refine then_normal ?_
            exact ⟨(fun i => ([x0, x20, x20, (D_3 0), (D_3 1), x24]).getD i undef), x24, by kernel_rfl, HA_6, H⟩
        · refine ls_skip (d := some 19) (by kernel_rfl) (by rw [hb]; kernel_rfl) ?_
          refine ls_skip (d := some 20) (by kernel_rfl) (by rw [hb]; kernel_rfl) ?_
          refine ls_skip (d := some 21) (by kernel_rfl) (by rw [hb]; kernel_rfl) ?_
          refine ls_skip (d := some 22) (by kernel_rfl) (by kernel_rfl) ?_
          refine ls_skip (d := some 23) (by kernel_rfl) (by kernel_rfl) ?_
          refine ls_fr (b := ⟨#[x0, undef, (.slice none 0 0), x0, x4, x4, (D 0), (D 1), x8, undef, undef, undef, x0, x13, x13, (D_1 0), (D_1 1), x17, x17, undef, undef, undef, undef, undef, undef, undef, undef, undef, undef], []⟩) (by kernel_rfl) ?_
          refine ls_skip (d := some 24) (by kernel_rfl) (by rw [hb]; kernel_rfl) ?_
          refine ls_pick_t (x := (.bool true)) (by kernel_rfl) (by rw [hb]; kernel_rfl) (by kernel_rfl) ?_
          refine ls_nil ?_
          refine then_normal ?_
          exact ⟨(fun i => ([undef, undef, undef, undef, undef, undef]).getD i undef), (.bool true), by kernel_rfl, HA_2, H⟩
        · rintro _ w_3 ⟨D_2, x25, rfl, HA_3, H⟩
          refine ls_nil ?_
          refine then_normal ?_
          refine fr_eq (b := ⟨#[x0, undef, (.slice none 0 0), x0, x4, x4, (D 0), (D 1), x8, undef, undef, undef, x0, x13, x13, (D_1 0), (D_1 1), x17, x17, (D_2 0), (D_2 1), (D_2 2), (D_2 3), (D_2 4), (D_2 5), x25, undef, undef, undef], []⟩) (by kernel_rfl) ?_
          refine wp_if rfl H (fun H => ?_) (fun H => ?_)
          · refine wp_seq ?_
            refine lwp_list ?_
            refine ls_d (d := some 26) (by kernel_rfl) (by kernel_rfl) HA_3 (d_slit (zc := #[.int .u8 0]) Tryd.underlying43 Tryd.sizeOf5 (by decide) (.inr ⟨by decide, _, Tryd.zeroValue5, (by kernel_rfl)⟩) (by kernel_rfl) (by kernel_rfl) H) (fun x26 h_1 w_4 H HA_4 => ?_)
            refine ls_assign (x := x26) (by kernel_rfl) (by kernel_rfl) ?_
            refine ls_nil ?_
            refine then_normal ?_
            refine fr_eq (b := ⟨#[x0, undef, x26, x0, x4, x4, (D 0), (D 1), x8, undef, undef, undef, x0, x13, x13, (D_1 0), (D_1 1), x17, x17, (D_2 0), (D_2 1), (D_2 2), (D_2 3), (D_2 4), (D_2 5), x25, x26, undef, undef], []⟩) (by kernel_rfl) ?_
            refine wp_ret ?_
            refine then_ret ?_
            exact end1 (Tryd.results24) (by kernel_rfl) (by kernel_rfl) HA_4 H _ (.inr rfl)
          · refine wp_skip ?_
            refine then_normal ?_
            refine fr_eq (b := ⟨#[x0, undef, (.slice none 0 0), x0, x4, x4, (D 0), (D 1), x8, undef, undef, undef, x0, x13, x13, (D_1 0), (D_1 1), x17, x17, (D_2 0), (D_2 1), (D_2 2), (D_2 3), (D_2 4), (D_2 5), x25, undef, undef, undef], []⟩) (by kernel_rfl) ?_
            refine wp_seq ?_
            refine lwp_list ?_
            refine ls_move (x := x0) (by kernel_rfl) (by kernel_rfl) ?_
            refine ls_d (d := some 28) (by kernel_rfl) (by kernel_rfl) HA_3 (d_call (by kernel_rfl) (by kernel_rfl) H) (fun x28 h_2 w_5 H HA_5 => ?_)
            refine ls_assign (x := x28) (by kernel_rfl) (by kernel_rfl) ?_
            refine ls_nil ?_
            refine then_normal ?_
            refine fr_eq (b := ⟨#[x0, undef, x28, x0, x4, x4, (D 0), (D 1), x8, undef, undef, undef, x0, x13, x13, (D_1 0), (D_1 1), x17, x17, (D_2 0), (D_2 1), (D_2 2), (D_2 3), (D_2 4), (D_2 5), x25, undef, x0, x28], []⟩) (by kernel_rfl) ?_
            refine wp_ret ?_
            exact end1 (Tryd.results24) (by kernel_rfl) (by kernel_rfl) HA_5 H _ (.inr rfl)

end Go.Proofs.YtjlpgakoedigoaaDoor
