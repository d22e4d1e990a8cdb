/- The shallow reading of one function, and that the function does it. Written by a program. -/
import Derived.Test.YtlcklnbgknhhkaaFnC
set_option linter.unusedVariables false
namespace Go.Proofs.Ytlcklnbgknhhkaa
open Go Go.HW

def ldisc_Disc_picture_S (x0 x1 : Value) (h : Heap) (R : Value → Heap → Prop) : Prop :=
  ldisc_Disc_local_c x0 (.int .i64 32) h fun x6 h => 
  sAnd x6 (fun k =>
  sLt x1 (.int .u8 32) fun x9 =>
  sAnd x9 (fun k_3 =>
  sNe x1 (.int .u8 9) fun x12 =>
  k_3 x12) fun x13 =>
  sAnd x13 (fun k_2 =>
  sNe x1 (.int .u8 10) fun x16 =>
  k_2 x16) fun x17 =>
  sOr x17 (fun k_1 =>
  sEq x1 (.int .u8 127) fun x20 =>
  k_1 x20) fun x21 =>
  k x21) fun x22 =>
  sIf x22 (sBits .xor .u8 x1 (.int .u8 64) fun x24 =>
  sSlit h #[.int .u8 0, .int .u8 0] [(0, 1, (.int .u8 94)), (1, 1, x24)] 5 2 fun x25 h_1 => 
  R x25 h_1) (sSlit h #[.int .u8 0] [(0, 1, x1)] 5 1 fun x27 h_2 => 
  R x27 h_2)
set_option maxRecDepth 100000 in
theorem ldisc_Disc_picture_runs {x0 x1 : Value} {h : Heap} {R : Value → Heap → Prop} (H : ldisc_Disc_picture_S x0 x1 h R) : ldisc_Disc_picture_c x0 x1 h R := by
  unfold ldisc_Disc_picture_S at H
  refine runs_of (b := ⟨#[x0, x1, undef, undef, undef, undef, undef, undef, undef, undef, undef, undef, undef, undef, undef, undef, undef, undef, undef, undef, undef, undef, undef, undef, undef, undef, undef, undef], []⟩) Try.call78 Try.func78 rfl (by kernel_rfl) (fun w0 HA => ?_)
  refine wp_seq ?_
  refine lwp_list ?_
  refine ls_assign (x := (.slice none 0 0)) (by kernel_rfl) (by kernel_rfl) ?_
  refine ls_nil ?_
  refine then_normal ?_
  refine fr_eq (b := ⟨#[x0, x1, undef, undef, (.slice none 0 0), undef, undef, undef, undef, undef, undef, undef, undef, undef, undef, undef, undef, undef, undef, undef, undef, undef, undef, undef, undef, undef, undef, undef], []⟩) (by kernel_rfl) ?_
  refine wp_seq ?_
  refine wp_seq ?_
  refine lwp_list ?_
  refine ls_move (x := x0) (by kernel_rfl) (by kernel_rfl) ?_
  refine ls_d (d := some 6) (by kernel_rfl) (by kernel_rfl) HA (d_call (by kernel_rfl) (by kernel_rfl) H) (fun x6 h w H HA => ?_)
  refine ls_move (x := x6) (by kernel_rfl) (by kernel_rfl) ?_
  refine ls_and [(), (), (), (), (), (), (), (), (), (), (), (), (), (), ()] (fun K a w => ∃ (D : Nat → Value) (x22 : Value), a = ⟨#[x0, x1, undef, undef, (.slice none 0 0), x0, x6, x6, (D 0), (D 1), (D 2), (D 3), (D 4), (D 5), (D 6), (D 7), (D 8), (D 9), (D 10), (D 11), (D 12), (D 13), x22, undef, undef, undef, undef, undef], []⟩ ∧ At w0 w h ∧ K x22) H (fun hb H => ?_) (fun hb H => ?_) ?_
  · refine ls_move (x := x1) (by rw [hb]; kernel_rfl) (by kernel_rfl) ?_
    refine ls_p (d := some 9) (by kernel_rfl) (by rw [hb]; kernel_rfl) (p_sLt (by kernel_rfl) (by kernel_rfl) H) (fun x9 H => ?_)
    refine ls_move (x := x9) (by rw [hb]; kernel_rfl) (by kernel_rfl) ?_
    refine ls_fr (b := ⟨#[x0, x1, undef, undef, (.slice none 0 0), x0, x6, x6, x1, x9, x9, undef, undef, undef, undef, undef, undef, undef, undef, undef, undef, undef, undef, undef, undef, undef, undef, undef], []⟩) (by kernel_rfl) ?_
    refine ls_and [(), (), ()] (fun K a w => ∃ (D_1 : Nat → Value) (x13 : Value), a = ⟨#[x0, x1, undef, undef, (.slice none 0 0), x0, x6, x6, x1, x9, x9, (D_1 0), (D_1 1), x13, undef, undef, undef, undef, undef, undef, undef, undef, undef, undef, undef, undef, undef, undef], []⟩ ∧ At w0 w h ∧ K x13) H (fun hb_3 H => ?_) (fun hb_3 H => ?_) ?_
    · refine ls_move (x := x1) (by rw [hb_3]; kernel_rfl) (by kernel_rfl) ?_
      refine ls_p (d := some 12) (by kernel_rfl) (by rw [hb_3]; kernel_rfl) (p_sNe (by kernel_rfl) (by kernel_rfl) H) (fun x12 H => ?_)
      refine ls_pick_t (x := x12) (by rw [hb]; kernel_rfl) (by rw [hb_3]; kernel_rfl) (by kernel_rfl) ?_
      refine ls_nil ?_
      refine then_normal ?_
      exact ⟨(fun i => ([x1, x12]).getD i undef), x12, by kernel_rfl, HA, H⟩
    · refine ls_skip (d := some 11) (by kernel_rfl) (by rw [hb_3]; kernel_rfl) ?_
      refine ls_skip (d := some 12) (by kernel_rfl) (by rw [hb_3]; kernel_rfl) ?_
      refine ls_pick_f (y := (.bool false)) (by rw [hb]; kernel_rfl) (by rw [hb_3]; kernel_rfl) (by kernel_rfl) ?_
      refine ls_nil ?_
      refine then_normal ?_
      exact ⟨(fun i => ([undef, undef]).getD i undef), (.bool false), by kernel_rfl, HA, H⟩
    · rintro _ w_4 ⟨D_1, x13, rfl, HA_4, H⟩
      refine ls_move (x := x13) (by rw [hb]; kernel_rfl) (by kernel_rfl) ?_
      refine ls_and [(), (), ()] (fun K a w => ∃ (D_2 : Nat → Value) (x17 : Value), a = ⟨#[x0, x1, undef, undef, (.slice none 0 0), x0, x6, x6, x1, x9, x9, (D_1 0), (D_1 1), x13, x13, (D_2 0), (D_2 1), x17, undef, undef, undef, undef, undef, undef, undef, undef, undef, undef], []⟩ ∧ At w0 w h ∧ K x17) H (fun hb_2 H => ?_) (fun hb_2 H => ?_) ?_
      · refine ls_move (x := x1) (by rw [hb_2]; kernel_rfl) (by kernel_rfl) ?_
        refine ls_p (d := some 16) (by kernel_rfl) (by rw [hb_2]; kernel_rfl) (p_sNe (by kernel_rfl) (by kernel_rfl) H) (fun x16 H => ?_)
        refine ls_pick_t (x := x16) (by rw [hb]; kernel_rfl) (by rw [hb_2]; kernel_rfl) (by kernel_rfl) ?_
        refine ls_nil ?_
        refine then_normal ?_
        exact ⟨(fun i => ([x1, x16]).getD i undef), x16, by kernel_rfl, HA_4, H⟩
      · refine ls_skip (d := some 15) (by kernel_rfl) (by rw [hb_2]; kernel_rfl) ?_
        refine ls_skip (d := some 16) (by kernel_rfl) (by rw [hb_2]; kernel_rfl) ?_
        refine ls_pick_f (y := (.bool false)) (by rw [hb]; kernel_rfl) (by rw [hb_2]; kernel_rfl) (by kernel_rfl) ?_
        refine ls_nil ?_
        refine then_normal ?_
        exact ⟨(fun i => ([undef, undef]).getD i undef), (.bool false), by kernel_rfl, HA_4, H⟩
      · rintro _ w_5 ⟨D_2, x17, rfl, HA_5, H⟩
        refine ls_move (x := x17) (by rw [hb]; kernel_rfl) (by kernel_rfl) ?_
        refine ls_or [(), (), ()] (fun K a w => ∃ (D_3 : Nat → Value) (x21 : Value), a = ⟨#[x0, x1, undef, undef, (.slice none 0 0), x0, x6, x6, x1, x9, x9, (D_1 0), (D_1 1), x13, x13, (D_2 0), (D_2 1), x17, x17, (D_3 0), (D_3 1), x21, undef, undef, undef, undef, undef, undef], []⟩ ∧ At w0 w h ∧ K x21) H (fun hb_1 H => ?_) (fun hb_1 H => ?_) ?_
        · refine ls_move (x := x1) (by rw [hb_1]; kernel_rfl) (by kernel_rfl) ?_
          refine ls_p (d := some 20) (by kernel_rfl) (by rw [hb_1]; kernel_rfl) (p_sEq (by kernel_rfl) (by kernel_rfl) H) (fun x20 H => ?_)
          refine ls_pick_f (y := x20) (by rw [hb]; kernel_rfl) (by rw [hb_1]; kernel_rfl) (by kernel_rfl) ?_
          refine ls_nil ?_
          refine then_normal ?_
          exact ⟨(fun i => ([x1, x20]).getD i undef), x20, by kernel_rfl, HA_5, H⟩
        · refine ls_skip (d := some 19) (by kernel_rfl) (by rw [hb_1]; kernel_rfl) ?_
          refine ls_skip (d := some 20) (by kernel_rfl) (by rw [hb_1]; kernel_rfl) ?_
          refine ls_pick_t (x := (.bool true)) (by rw [hb]; kernel_rfl) (by rw [hb_1]; kernel_rfl) (by kernel_rfl) ?_
          refine ls_nil ?_
          refine then_normal ?_
          exact ⟨(fun i => ([undef, undef]).getD i undef), (.bool true), by kernel_rfl, HA_5, H⟩
        · rintro _ w_6 ⟨D_3, x21, rfl, HA_6, H⟩
          refine ls_pick_t (x := x21) (by kernel_rfl) (by rw [hb]; kernel_rfl) (by kernel_rfl) ?_
          refine ls_nil ?_
          refine then_normal ?_
          exact ⟨(fun i => ([x1, x9, x9, (D_1 0), (D_1 1), x13, x13, (D_2 0), (D_2 1), x17, x17, (D_3 0), (D_3 1), x21]).getD i undef), x21, by kernel_rfl, HA_6, H⟩
  · refine ls_skip (d := some 8) (by kernel_rfl) (by rw [hb]; kernel_rfl) ?_
    refine ls_skip (d := some 9) (by kernel_rfl) (by rw [hb]; kernel_rfl) ?_
    refine ls_skip (d := some 10) (by kernel_rfl) (by rw [hb]; kernel_rfl) ?_
    refine ls_fr (b := ⟨#[x0, x1, undef, undef, (.slice none 0 0), x0, x6, x6, undef, undef, undef, undef, undef, undef, undef, undef, undef, undef, undef, undef, undef, undef, undef, undef, undef, undef, undef, undef], []⟩) (by kernel_rfl) ?_
    refine ls_skip (d := some 11) (by kernel_rfl) (by kernel_rfl) ?_
    refine ls_skip (d := some 12) (by kernel_rfl) (by kernel_rfl) ?_
    refine ls_skip (d := some 13) (by kernel_rfl) (by rw [hb]; kernel_rfl) ?_
    refine ls_skip (d := some 14) (by kernel_rfl) (by rw [hb]; kernel_rfl) ?_
    refine ls_skip (d := some 15) (by kernel_rfl) (by kernel_rfl) ?_
    refine ls_skip (d := some 16) (by kernel_rfl) (by kernel_rfl) ?_
    refine ls_fr (b := ⟨#[x0, x1, undef, undef, (.slice none 0 0), x0, x6, x6, undef, undef, undef, undef, undef, undef, undef, undef, undef, undef, undef, undef, undef, undef, undef, undef, undef, undef, undef, undef], []⟩) (by kernel_rfl) ?_
    refine ls_skip (d := some 17) (by kernel_rfl) (by rw [hb]; kernel_rfl) ?_
    refine ls_skip (d := some 18) (by kernel_rfl) (by rw [hb]; kernel_rfl) ?_
    refine ls_skip (d := some 19) (by kernel_rfl) (by kernel_rfl) ?_
    refine ls_skip (d := some 20) (by kernel_rfl) (by kernel_rfl) ?_
    refine ls_skip (d := some 21) (by kernel_rfl) (by rw [hb]; kernel_rfl) ?_
    refine ls_pick_f (y := (.bool false)) (by kernel_rfl) (by rw [hb]; kernel_rfl) (by kernel_rfl) ?_
    refine ls_nil ?_
    refine then_normal ?_
    exact ⟨(fun i => ([undef, undef, undef, undef, undef, undef, undef, undef, undef, undef, undef, undef, undef, undef]).getD i undef), (.bool false), by kernel_rfl, HA, H⟩
  · rintro _ w_1 ⟨D, x22, rfl, HA_1, H⟩
    refine ls_nil ?_
    refine then_normal ?_
    refine fr_eq (b := ⟨#[x0, x1, undef, undef, (.slice none 0 0), x0, x6, x6, (D 0), (D 1), (D 2), (D 3), (D 4), (D 5), (D 6), (D 7), (D 8), (D 9), (D 10), (D 11), (D 12), (D 13), x22, undef, undef, undef, undef, undef], []⟩) (by kernel_rfl) ?_
    refine wp_if rfl H (fun H => ?_) (fun H => ?_)
    · refine wp_seq ?_
      refine lwp_list ?_
      refine ls_move (x := x1) (by kernel_rfl) (by kernel_rfl) ?_
      refine ls_p (d := some 24) (by kernel_rfl) (by kernel_rfl) (p_bits (by decide) (by kernel_rfl) (by kernel_rfl) H) (fun x24 H => ?_)
      refine ls_d (d := some 25) (by kernel_rfl) (by kernel_rfl) HA_1 (d_slit (zc := #[.int .u8 0]) Try.underlying30 Try.sizeOf5 (by decide) (.inr ⟨by decide, _, Try.zeroValue5, (by kernel_rfl)⟩) (by kernel_rfl) (by kernel_rfl) H) (fun x25 h_1 w_2 H HA_2 => ?_)
      refine ls_assign (x := x25) (by kernel_rfl) (by kernel_rfl) ?_
      refine ls_nil ?_
      refine then_normal ?_
      refine fr_eq (b := ⟨#[x0, x1, undef, undef, x25, x0, x6, x6, (D 0), (D 1), (D 2), (D 3), (D 4), (D 5), (D 6), (D 7), (D 8), (D 9), (D 10), (D 11), (D 12), (D 13), x22, x1, x24, x25, undef, undef], []⟩) (by kernel_rfl) ?_
      refine wp_ret ?_
      refine then_ret ?_
      exact end1 (Try.results78) (by kernel_rfl) (by kernel_rfl) HA_2 H _ (.inr rfl)
    · refine wp_skip ?_
      refine then_normal ?_
      refine fr_eq (b := ⟨#[x0, x1, undef, undef, (.slice none 0 0), x0, x6, x6, (D 0), (D 1), (D 2), (D 3), (D 4), (D 5), (D 6), (D 7), (D 8), (D 9), (D 10), (D 11), (D 12), (D 13), x22, undef, undef, undef, undef, undef], []⟩) (by kernel_rfl) ?_
      refine wp_seq ?_
      refine lwp_list ?_
      refine ls_move (x := x1) (by kernel_rfl) (by kernel_rfl) ?_
      refine ls_d (d := some 27) (by kernel_rfl) (by kernel_rfl) HA_1 (d_slit (zc := #[.int .u8 0]) Try.underlying30 Try.sizeOf5 (by decide) (.inr ⟨by decide, _, Try.zeroValue5, (by kernel_rfl)⟩) (by kernel_rfl) (by kernel_rfl) H) (fun x27 h_2 w_3 H HA_3 => ?_)
      refine ls_assign (x := x27) (by kernel_rfl) (by kernel_rfl) ?_
      refine ls_nil ?_
      refine then_normal ?_
      refine fr_eq (b := ⟨#[x0, x1, undef, undef, x27, x0, x6, x6, (D 0), (D 1), (D 2), (D 3), (D 4), (D 5), (D 6), (D 7), (D 8), (D 9), (D 10), (D 11), (D 12), (D 13), x22, undef, undef, undef, x1, x27], []⟩) (by kernel_rfl) ?_
      refine wp_ret ?_
      exact end1 (Try.results78) (by kernel_rfl) (by kernel_rfl) HA_3 H _ (.inr rfl)

end Go.Proofs.Ytlcklnbgknhhkaa
