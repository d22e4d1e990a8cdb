/- The shallow reading of one function, and that the function does it. Written by a program. -/
import Derived.Test.YtpgpbhbpamgboaaDoorFnC
set_option linter.unusedVariables false
namespace Go.Proofs.YtpgpbhbpamgboaaDoor
open Go Go.HW

def charset_Sets_Map_S (x0 x1 : Value) (h : Heap) (R : Value → Heap → Prop) : Prop :=
  sNil x0 fun x8 =>
  sOff x8 2 fun x9 =>
  sLd h x9 fun x10 =>
  sNil x0 fun x11 =>
  sOff x11 0 fun x12 =>
  sIxA x12 x10 2 1 fun x13 =>
  sLd h x13 fun x14 =>
  sEq x14 (.int .u8 65) fun x17 =>
  sAnd x17 (fun k_2 =>
  sEq x1 (.int .i32 35) fun x20 =>
  k_2 x20) fun x21 =>
  sIf x21 (R (.int .i32 163) h) (sEq x14 (.int .u8 48) fun x24 =>
  sAnd x24 (fun k_1 =>
  sGe x1 (.int .i32 95) fun x27 =>
  k_1 x27) fun x28 =>
  sAnd x28 (fun k =>
  sLe x1 (.int .i32 126) fun x31 =>
  k x31) fun x32 =>
  sIf x32 (sSub .i32 x1 (.int .i32 95) fun x34 =>
  sIxA (.pointer (some ⟨0, 0, none⟩)) x34 32 1 fun x35 =>
  sLd h x35 fun x36 =>
  R x36 h) (R x1 h))
set_option maxRecDepth 100000 in
theorem charset_Sets_Map_runs {x0 x1 : Value} {h : Heap} {R : Value → Heap → Prop} (H : charset_Sets_Map_S x0 x1 h R) : charset_Sets_Map_c x0 x1 h R := by
  unfold charset_Sets_Map_S at H
  refine runs_of (b := ⟨#[x0, x1, undef, undef, undef, undef, undef, undef, undef, undef, undef, undef, undef, undef, undef, undef, undef, undef, undef, undef, undef, undef, undef, undef, undef, undef, undef, undef, undef, undef, undef, undef, undef, undef, undef, undef, undef, undef], []⟩) Tryd.call7 Tryd.func7 rfl (by kernel_rfl) (fun w0 HA => ?_)
  refine wp_seq ?_
  refine lwp_list ?_
  refine ls_assign (x := (.int .i32 0)) (by kernel_rfl) (by kernel_rfl) ?_
  refine ls_nil ?_
  refine then_normal ?_
  refine fr_eq (b := ⟨#[x0, x1, undef, undef, (.int .i32 0), undef, undef, undef, undef, undef, undef, undef, undef, undef, undef, undef, undef, undef, undef, undef, undef, undef, undef, undef, undef, undef, undef, undef, undef, undef, undef, undef, undef, undef, undef, undef, undef, undef], []⟩) (by kernel_rfl) ?_
  refine wp_seq ?_
  refine wp_seq ?_
  refine lwp_qt (by kernel_rfl) (by kernel_rfl) HA ?_
  refine lq_move (x := x0) (by kernel_rfl) (by kernel_rfl) ?_
  refine lq_move (x := x0) (by kernel_rfl) (by kernel_rfl) ?_
  refine lq_p (d := some 8) (by kernel_rfl) (by kernel_rfl) (p_nil (by kernel_rfl) H) (fun x8 H => ?_)
  refine lq_p (d := some 9) (by kernel_rfl) (by kernel_rfl) (p_off Tryd.underlying24 rfl (fun w => ⟨_, Tryd.sizeOf3 w⟩) rfl (by kernel_rfl) H) (fun x9 H => ?_)
  refine lq_y (d := some 10) (by kernel_rfl) (by kernel_rfl) HA (y_ld Tryd.isAgg3 (by kernel_rfl) H) (fun x10 H => ?_)
  refine lq_p (d := some 11) (by kernel_rfl) (by kernel_rfl) (p_nil (by kernel_rfl) H) (fun x11 H => ?_)
  refine lq_fr (b := ⟨#[x0, x1, undef, undef, (.int .i32 0), undef, x0, x0, x8, x9, x10, x11, undef, undef, undef, undef, undef, undef, undef, undef, undef, undef, undef, undef, undef, undef, undef, undef, undef, undef, undef, undef, undef, undef, undef, undef, undef, undef], []⟩) (by kernel_rfl) ?_
  refine lq_p (d := some 12) (by kernel_rfl) (by kernel_rfl) (p_off Tryd.underlying24 rfl (fun w => ⟨_, Tryd.sizeOf22 w⟩) rfl (by kernel_rfl) H) (fun x12 H => ?_)
  refine lq_p (d := some 13) (by kernel_rfl) (by kernel_rfl) (p_ixa Tryd.underlying22 Tryd.sizeOf5 (by kernel_rfl) (by kernel_rfl) H) (fun x13 H => ?_)
  refine lq_y (d := some 14) (by kernel_rfl) (by kernel_rfl) HA (y_ld Tryd.isAgg5 (by kernel_rfl) H) (fun x14 H => ?_)
  refine lq_assign (x := x14) (by kernel_rfl) (by kernel_rfl) ?_
  refine lq_nil ?_
  intro w HA
  refine then_normal ?_
  refine fr_eq (b := ⟨#[x0, x1, undef, undef, (.int .i32 0), x14, x0, x0, x8, x9, x10, x11, x12, x13, x14, undef, undef, undef, undef, undef, undef, undef, undef, undef, undef, undef, undef, undef, undef, undef, undef, undef, undef, undef, undef, undef, undef, undef], []⟩) (by kernel_rfl) ?_
  refine wp_block ?_
  refine wp_seq ?_
  refine lwp_list ?_
  refine ls_move (x := x14) (by kernel_rfl) (by kernel_rfl) ?_
  refine ls_p (d := some 17) (by kernel_rfl) (by kernel_rfl) (p_sEq (by kernel_rfl) (by kernel_rfl) H) (fun x17 H => ?_)
  refine ls_move (x := x17) (by kernel_rfl) (by kernel_rfl) ?_
  refine ls_and [(), (), ()] (fun K a w => ∃ (D : Nat → Value) (x21 : Value), a = ⟨#[x0, x1, undef, undef, (.int .i32 0), x14, x0, x0, x8, x9, x10, x11, x12, x13, x14, undef, x14, x17, x17, (D 0), (D 1), x21, undef, undef, undef, undef, undef, undef, undef, undef, undef, undef, undef, undef, undef, undef, undef, undef], []⟩ ∧ At w0 w h ∧ K x21) H (fun hb_2 H => ?_) (fun hb_2 H => ?_) ?_
  · refine ls_move (x := x1) (by rw [hb_2]; kernel_rfl) (by kernel_rfl) ?_
    refine ls_p (d := some 20) (by kernel_rfl) (by rw [hb_2]; kernel_rfl) (p_sEq (by kernel_rfl) (by kernel_rfl) H) (fun x20 H => ?_)
    refine ls_pick_t (x := x20) (by kernel_rfl) (by rw [hb_2]; kernel_rfl) (by kernel_rfl) ?_
    refine ls_nil ?_
    refine then_normal ?_
    exact ⟨(fun i => ([x1, x20]).getD i undef), x20, by kernel_rfl, HA, H⟩
  · refine ls_skip (d := some 19) (by kernel_rfl) (by rw [hb_2]; kernel_rfl) ?_
    refine ls_skip (d := some 20) (by kernel_rfl) (by rw [hb_2]; kernel_rfl) ?_
    refine ls_pick_f (y := (.bool false)) (by kernel_rfl) (by rw [hb_2]; kernel_rfl) (by kernel_rfl) ?_
    refine ls_nil ?_
    refine then_normal ?_
    exact ⟨(fun i => ([undef, undef]).getD i undef), (.bool false), by kernel_rfl, HA, H⟩
  · rintro _ w_1 ⟨D, x21, rfl, HA_1, H⟩
    refine ls_assign (x := x21) (by kernel_rfl) (by kernel_rfl) ?_
    refine ls_nil ?_
    refine then_normal ?_
    refine fr_eq (b := ⟨#[x0, x1, undef, undef, (.int .i32 0), x14, x0, x0, x8, x9, x10, x11, x12, x13, x14, x21, x14, x17, x17, (D 0), (D 1), x21, undef, undef, undef, undef, undef, undef, undef, undef, undef, undef, undef, undef, undef, undef, undef, undef], []⟩) (by kernel_rfl) ?_
    refine wp_if rfl H (fun H => ?_) (fun H => ?_)
    · refine wp_seq ?_
      refine lwp_list ?_
      refine ls_assign (x := (.int .i32 163)) (by kernel_rfl) (by kernel_rfl) ?_
      refine ls_nil ?_
      refine then_normal ?_
      refine fr_eq (b := ⟨#[x0, x1, undef, undef, (.int .i32 163), x14, x0, x0, x8, x9, x10, x11, x12, x13, x14, x21, x14, x17, x17, (D 0), (D 1), x21, undef, undef, undef, undef, undef, undef, undef, undef, undef, undef, undef, undef, undef, undef, undef, undef], []⟩) (by kernel_rfl) ?_
      refine wp_ret ?_
      refine block_ret ?_
      refine then_ret ?_
      exact end1 (Tryd.results7) (by kernel_rfl) (by kernel_rfl) HA_1 H _ (.inr rfl)
    · refine wp_seq ?_
      refine lwp_list ?_
      refine ls_move (x := x14) (by kernel_rfl) (by kernel_rfl) ?_
      refine ls_p (d := some 24) (by kernel_rfl) (by kernel_rfl) (p_sEq (by kernel_rfl) (by kernel_rfl) H) (fun x24 H => ?_)
      refine ls_move (x := x24) (by kernel_rfl) (by kernel_rfl) ?_
      refine ls_and [(), (), ()] (fun K a w => ∃ (D_1 : Nat → Value) (x28 : Value), a = ⟨#[x0, x1, undef, undef, (.int .i32 0), x14, x0, x0, x8, x9, x10, x11, x12, x13, x14, x21, x14, x17, x17, (D 0), (D 1), x21, undef, x14, x24, x24, (D_1 0), (D_1 1), x28, undef, undef, undef, undef, undef, undef, undef, undef, undef], []⟩ ∧ At w0 w h ∧ K x28) H (fun hb_1 H => ?_) (fun hb_1 H => ?_) ?_
      · refine ls_move (x := x1) (by rw [hb_1]; kernel_rfl) (by kernel_rfl) ?_
        refine ls_p (d := some 27) (by kernel_rfl) (by rw [hb_1]; kernel_rfl) (p_sGe (by kernel_rfl) (by kernel_rfl) H) (fun x27 H => ?_)
        refine ls_pick_t (x := x27) (by kernel_rfl) (by rw [hb_1]; kernel_rfl) (by kernel_rfl) ?_
        refine ls_nil ?_
        refine then_normal ?_
        exact ⟨(fun i => ([x1, x27]).getD i undef), x27, by kernel_rfl, HA_1, H⟩
      · refine ls_skip (d := some 26) (by kernel_rfl) (by rw [hb_1]; kernel_rfl) ?_
        refine ls_skip (d := some 27) (by kernel_rfl) (by rw [hb_1]; kernel_rfl) ?_
        refine ls_pick_f (y := (.bool false)) (by kernel_rfl) (by rw [hb_1]; kernel_rfl) (by kernel_rfl) ?_
        refine ls_nil ?_
        refine then_normal ?_
        exact ⟨(fun i => ([undef, undef]).getD i undef), (.bool false), by kernel_rfl, HA_1, H⟩
      · rintro _ w_2 ⟨D_1, x28, rfl, HA_2, H⟩
        refine ls_move (x := x28) (by kernel_rfl) (by kernel_rfl) ?_
        refine ls_and [(), (), ()] (fun K a w => ∃ (D_2 : Nat → Value) (x32 : Value), a = ⟨#[x0, x1, undef, undef, (.int .i32 0), x14, x0, x0, x8, x9, x10, x11, x12, x13, x14, x21, x14, x17, x17, (D 0), (D 1), x21, undef, x14, x24, x24, (D_1 0), (D_1 1), x28, x28, (D_2 0), (D_2 1), x32, undef, undef, undef, undef, undef], []⟩ ∧ At w0 w h ∧ K x32) H (fun hb H => ?_) (fun hb H => ?_) ?_
        · refine ls_move (x := x1) (by rw [hb]; kernel_rfl) (by kernel_rfl) ?_
          refine ls_p (d := some 31) (by kernel_rfl) (by rw [hb]; kernel_rfl) (p_sLe (by kernel_rfl) (by kernel_rfl) H) (fun x31 H => ?_)
          refine ls_pick_t (x := x31) (by kernel_rfl) (by rw [hb]; kernel_rfl) (by kernel_rfl) ?_
          refine ls_nil ?_
          refine then_normal ?_
          exact ⟨(fun i => ([x1, x31]).getD i undef), x31, by kernel_rfl, HA_2, H⟩
        · refine ls_skip (d := some 30) (by kernel_rfl) (by rw [hb]; kernel_rfl) ?_
          refine ls_skip (d := some 31) (by kernel_rfl) (by rw [hb]; kernel_rfl) ?_
          refine ls_pick_f (y := (.bool false)) (by kernel_rfl) (by rw [hb]; kernel_rfl) (by kernel_rfl) ?_
          refine ls_nil ?_
          refine then_normal ?_
          exact ⟨(fun i => ([undef, undef]).getD i undef), (.bool false), by kernel_rfl, HA_2, H⟩
        · rintro _ w_3 ⟨D_2, x32, rfl, HA_3, H⟩
          refine ls_assign (x := x32) (by kernel_rfl) (by kernel_rfl) ?_
          refine ls_nil ?_
          refine then_normal ?_
          refine fr_eq (b := ⟨#[x0, x1, undef, undef, (.int .i32 0), x14, x0, x0, x8, x9, x10, x11, x12, x13, x14, x21, x14, x17, x17, (D 0), (D 1), x21, x32, x14, x24, x24, (D_1 0), (D_1 1), x28, x28, (D_2 0), (D_2 1), x32, undef, undef, undef, undef, undef], []⟩) (by kernel_rfl) ?_
          refine wp_if rfl H (fun H => ?_) (fun H => ?_)
          · refine wp_seq ?_
            refine lwp_list ?_
            refine ls_move (x := x1) (by kernel_rfl) (by kernel_rfl) ?_
            refine ls_p (d := some 34) (by kernel_rfl) (by kernel_rfl) (p_sub (by kernel_rfl) (by kernel_rfl) H) (fun x34 H => ?_)
            refine ls_p (d := some 35) (by kernel_rfl) (by kernel_rfl) (p_ixa Tryd.underlying40 Tryd.sizeOf21 (by kernel_rfl) (by kernel_rfl) H) (fun x35 H => ?_)
            refine ls_y (d := some 36) (by kernel_rfl) (by kernel_rfl) HA_3 (y_ld Tryd.isAgg21 (by kernel_rfl) H) (fun x36 H => ?_)
            refine ls_assign (x := x36) (by kernel_rfl) (by kernel_rfl) ?_
            refine ls_nil ?_
            refine then_normal ?_
            refine fr_eq (b := ⟨#[x0, x1, undef, undef, x36, x14, x0, x0, x8, x9, x10, x11, x12, x13, x14, x21, x14, x17, x17, (D 0), (D 1), x21, x32, x14, x24, x24, (D_1 0), (D_1 1), x28, x28, (D_2 0), (D_2 1), x32, x1, x34, x35, x36, undef], []⟩) (by kernel_rfl) ?_
            refine wp_ret ?_
            refine block_ret ?_
            refine then_ret ?_
            exact end1 (Tryd.results7) (by kernel_rfl) (by kernel_rfl) HA_3 H _ (.inr rfl)
          · refine wp_skip ?_
            refine block_normal ?_
            refine then_normal ?_
            refine fr_eq (b := ⟨#[x0, x1, undef, undef, (.int .i32 0), x14, x0, x0, x8, x9, x10, x11, x12, x13, x14, x21, x14, x17, x17, (D 0), (D 1), x21, x32, x14, x24, x24, (D_1 0), (D_1 1), x28, x28, (D_2 0), (D_2 1), x32, undef, undef, undef, undef, undef], []⟩) (by kernel_rfl) ?_
            refine wp_seq ?_
            refine lwp_list ?_
            refine ls_move (x := x1) (by kernel_rfl) (by kernel_rfl) ?_
            refine ls_assign (x := x1) (by kernel_rfl) (by kernel_rfl) ?_
            refine ls_nil ?_
            refine then_normal ?_
            refine fr_eq (b := ⟨#[x0, x1, undef, undef, x1, x14, x0, x0, x8, x9, x10, x11, x12, x13, x14, x21, x14, x17, x17, (D 0), (D 1), x21, x32, x14, x24, x24, (D_1 0), (D_1 1), x28, x28, (D_2 0), (D_2 1), x32, undef, undef, undef, undef, x1], []⟩) (by kernel_rfl) ?_
            refine wp_ret ?_
            exact end1 (Tryd.results7) (by kernel_rfl) (by kernel_rfl) HA_3 H _ (.inr rfl)

end Go.Proofs.YtpgpbhbpamgboaaDoor
