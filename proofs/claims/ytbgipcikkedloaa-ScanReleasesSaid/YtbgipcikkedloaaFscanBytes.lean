/- The shallow reading of one function, and that the function does it. Written by a program. -/
import Derived.Test.YtbgipcikkedloaaFnC
set_option linter.unusedVariables false
namespace Go.Proofs.Ytbgipcikkedloaa
open Go Go.HW

def scan_Bytes_S (x0 x1 : Value) (h : Heap) (R : Value → Heap → Prop) : Prop :=
  sBox h x0 52 fun x2 h => 
  sLdN h x2 2 fun x6 =>
  scan_plain_c x6 x1 h fun x8 h_1 => 
  sLen x8 fun x10 =>
  sGt x10 (.int .i64 0) fun x11 =>
  sAnd x11 (fun k =>
  sOff x2 1 fun x13 =>
  sLd h_1 x13 fun x14 =>
  sBits .and .i64 x14 (.int .i64 4) fun x15 =>
  sNe x15 (.int .i64 0) fun x16 =>
  k x16) fun x17 =>
  sIf x17 (sSlit h_1 #[.int .u8 0] [(0, 1, (.int .u8 27))] 5 1 fun x18 h_2 => 
  sApp h_2 x18 x8 #[.int .u8 0] 5 1 fun x20 h_3 => 
  R x20 h_3) (R x8 h_1)
set_option maxRecDepth 100000 in
theorem scan_Bytes_runs {x0 x1 : Value} {h : Heap} {R : Value → Heap → Prop} (H : scan_Bytes_S x0 x1 h R) : scan_Bytes_c x0 x1 h R := by
  unfold scan_Bytes_S at H
  refine runs_of (b := ⟨#[x0, x1, undef, undef, undef, undef, undef, undef, undef, undef, undef, undef, undef, undef, undef, undef, undef, undef, undef, undef, undef, undef], []⟩) Try.call24 Try.func24 rfl (by kernel_rfl) (fun w0 HA => ?_)
  refine wp_seq ?_
  refine lwp_list ?_
  refine ls_d (d := some 2) (by kernel_rfl) (by kernel_rfl) HA (d_box (by kernel_rfl) H) (fun x2 h w H HA => ?_)
  refine ls_assign (x := (.slice none 0 0)) (by kernel_rfl) (by kernel_rfl) ?_
  refine ls_nil ?_
  refine then_normal ?_
  refine fr_eq (b := ⟨#[x0, x1, x2, undef, (.slice none 0 0), undef, undef, undef, undef, undef, undef, undef, undef, undef, undef, undef, undef, undef, undef, undef, undef, undef], []⟩) (by kernel_rfl) ?_
  refine wp_seq ?_
  refine lwp_list ?_
  refine ls_y (d := some 6) (by kernel_rfl) (by kernel_rfl) HA (y_ldn Try.isAgg52 Try.sizeOf52 (by kernel_rfl) H) (fun x6 H => ?_)
  refine ls_move (x := x1) (by kernel_rfl) (by kernel_rfl) ?_
  refine ls_d (d := some 8) (by kernel_rfl) (by kernel_rfl) HA (d_call (by kernel_rfl) (by kernel_rfl) H) (fun x8 h_1 w_1 H HA_1 => ?_)
  refine ls_assign (x := x8) (by kernel_rfl) (by kernel_rfl) ?_
  refine ls_nil ?_
  refine then_normal ?_
  refine fr_eq (b := ⟨#[x0, x1, x2, undef, (.slice none 0 0), x8, x6, x1, x8, undef, undef, undef, undef, undef, undef, undef, undef, undef, undef, undef, undef, undef], []⟩) (by kernel_rfl) ?_
  refine wp_seq ?_
  refine wp_seq ?_
  refine lwp_list ?_
  refine ls_move (x := x8) (by kernel_rfl) (by kernel_rfl) ?_
  refine ls_p (d := some 10) (by kernel_rfl) (by kernel_rfl) (p_len Try.underlying54 (by kernel_rfl) H) (fun x10 H => ?_)
  refine ls_p (d := some 11) (by kernel_rfl) (by kernel_rfl) (p_sGt (by kernel_rfl) (by kernel_rfl) H) (fun x11 H => ?_)
  refine ls_move (x := x11) (by kernel_rfl) (by kernel_rfl) ?_
  refine ls_and [(), (), (), (), ()] (fun K a w => ∃ (D : Nat → Value) (x17 : Value), a = ⟨#[x0, x1, x2, undef, (.slice none 0 0), x8, x6, x1, x8, x8, x10, x11, x11, (D 0), (D 1), (D 2), (D 3), x17, undef, undef, undef, undef], []⟩ ∧ At w0 w h_1 ∧ K x17) H (fun hb H => ?_) (fun hb H => ?_) ?_
  · refine ls_p (d := some 13) (by kernel_rfl) (by rw [hb]; kernel_rfl) (p_off Try.underlying52 rfl (fun w => ⟨_, Try.sizeOf3 w⟩) rfl (by kernel_rfl) H) (fun x13 H => ?_)
    refine ls_y (d := some 14) (by kernel_rfl) (by rw [hb]; kernel_rfl) HA_1 (y_ld Try.isAgg3 (by kernel_rfl) H) (fun x14 H => ?_)
    refine ls_fr (b := ⟨#[x0, x1, x2, undef, (.slice none 0 0), x8, x6, x1, x8, x8, x10, x11, x11, x13, x14, undef, undef, undef, undef, undef, undef, undef], []⟩) (by kernel_rfl) ?_
    refine ls_p (d := some 15) (by kernel_rfl) (by rw [hb]; kernel_rfl) (p_bits (by decide) (by kernel_rfl) (by kernel_rfl) H) (fun x15 H => ?_)
    refine ls_p (d := some 16) (by kernel_rfl) (by rw [hb]; kernel_rfl) (p_sNe (by kernel_rfl) (by kernel_rfl) H) (fun x16 H => ?_)
    refine ls_pick_t (x := x16) (by kernel_rfl) (by rw [hb]; kernel_rfl) (by kernel_rfl) ?_
    refine ls_nil ?_
    refine then_normal ?_
    exact ⟨(fun i => ([x13, x14, x15, x16]).getD i undef), x16, by kernel_rfl, HA_1, H⟩
  · refine ls_skip (d := some 13) (by kernel_rfl) (by rw [hb]; kernel_rfl) ?_
    refine ls_skip (d := some 14) (by kernel_rfl) (by rw [hb]; kernel_rfl) ?_
    refine ls_fr (b := ⟨#[x0, x1, x2, undef, (.slice none 0 0), x8, x6, x1, x8, x8, x10, x11, x11, undef, undef, undef, undef, undef, undef, undef, undef, undef], []⟩) (by kernel_rfl) ?_
    refine ls_skip (d := some 15) (by kernel_rfl) (by rw [hb]; kernel_rfl) ?_
    refine ls_skip (d := some 16) (by kernel_rfl) (by rw [hb]; kernel_rfl) ?_
    refine ls_pick_f (y := (.bool false)) (by kernel_rfl) (by rw [hb]; kernel_rfl) (by kernel_rfl) ?_
    refine ls_nil ?_
    refine then_normal ?_
    exact ⟨(fun i => ([undef, undef, undef, undef]).getD i undef), (.bool false), by kernel_rfl, HA_1, H⟩
  · rintro _ w_2 ⟨D, x17, rfl, HA_2, H⟩
    refine ls_nil ?_
    refine then_normal ?_
    refine fr_eq (b := ⟨#[x0, x1, x2, undef, (.slice none 0 0), x8, x6, x1, x8, x8, x10, x11, x11, (D 0), (D 1), (D 2), (D 3), x17, undef, undef, undef, undef], []⟩) (by kernel_rfl) ?_
    refine wp_if rfl H (fun H => ?_) (fun H => ?_)
    · refine wp_seq ?_
      refine lwp_list ?_
      refine ls_d (d := some 18) (by kernel_rfl) (by kernel_rfl) HA_2 (d_slit (zc := #[.int .u8 0]) Try.underlying54 Try.sizeOf5 (by decide) (.inr ⟨by decide, _, Try.zeroValue5, (by kernel_rfl)⟩) (by kernel_rfl) (by kernel_rfl) H) (fun x18 h_2 w_3 H HA_3 => ?_)
      refine ls_move (x := x8) (by kernel_rfl) (by kernel_rfl) ?_
      refine ls_d (d := some 20) (by kernel_rfl) (by kernel_rfl) HA_3 (d_app (z := #[.int .u8 0]) Try.underlying54 Try.underlying54 (.inl ⟨_, rfl⟩) Try.typeInfo5 (by kernel_rfl) Try.sizeOf5 Try.zeroValue5 (by kernel_rfl) (by kernel_rfl) (by kernel_rfl) H) (fun x20 h_3 w_4 H HA_4 => ?_)
      refine ls_assign (x := x20) (by kernel_rfl) (by kernel_rfl) ?_
      refine ls_nil ?_
      refine then_normal ?_
      refine fr_eq (b := ⟨#[x0, x1, x2, undef, x20, x8, x6, x1, x8, x8, x10, x11, x11, (D 0), (D 1), (D 2), (D 3), x17, x18, x8, x20, undef], []⟩) (by kernel_rfl) ?_
      refine wp_ret ?_
      refine then_ret ?_
      exact end1 (Try.results24) (by kernel_rfl) (by kernel_rfl) HA_4 H _ (.inr rfl)
    · refine wp_skip ?_
      refine then_normal ?_
      refine fr_eq (b := ⟨#[x0, x1, x2, undef, (.slice none 0 0), x8, x6, x1, x8, x8, x10, x11, x11, (D 0), (D 1), (D 2), (D 3), x17, undef, undef, undef, undef], []⟩) (by kernel_rfl) ?_
      refine wp_seq ?_
      refine lwp_list ?_
      refine ls_move (x := x8) (by kernel_rfl) (by kernel_rfl) ?_
      refine ls_assign (x := x8) (by kernel_rfl) (by kernel_rfl) ?_
      refine ls_nil ?_
      refine then_normal ?_
      refine fr_eq (b := ⟨#[x0, x1, x2, undef, x8, x8, x6, x1, x8, x8, x10, x11, x11, (D 0), (D 1), (D 2), (D 3), x17, undef, undef, undef, x8], []⟩) (by kernel_rfl) ?_
      refine wp_ret ?_
      exact end1 (Try.results24) (by kernel_rfl) (by kernel_rfl) HA_2 H _ (.inr rfl)

end Go.Proofs.Ytbgipcikkedloaa
