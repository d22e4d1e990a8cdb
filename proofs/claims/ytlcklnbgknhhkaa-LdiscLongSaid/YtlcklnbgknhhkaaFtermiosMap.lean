/- The shallow reading of one function, and that the function does it. Written by a program. -/
import Derived.Test.YtlcklnbgknhhkaaFnC
set_option linter.unusedVariables false
namespace Go.Proofs.Ytlcklnbgknhhkaa
open Go Go.HW

def termios_Map_j1 (R : Value → Heap → Prop) (x2 x1_1 : Value) (h_1 : Heap) : Prop :=
  sEq x1_1 (.int .u8 13) fun x14 =>
  sAnd x14 (fun k_2 =>
  sOff x2 0 fun x16 =>
  sLd h_1 x16 fun x17 =>
  sBits .and .i64 x17 (.int .i64 2) fun x18 =>
  sNe x18 (.int .i64 0) fun x19 =>
  k_2 x19) fun x20 =>
  sIf x20 (R (.tuple #[(.int .u8 0), (.bool false)]) h_1) (sEq x1_1 (.int .u8 13) fun x23 =>
  sAnd x23 (fun k_1 =>
  sOff x2 0 fun x25 =>
  sLd h_1 x25 fun x26 =>
  sBits .and .i64 x26 (.int .i64 4) fun x27 =>
  sNe x27 (.int .i64 0) fun x28 =>
  k_1 x28) fun x29 =>
  sIf x29 (R (.tuple #[(.int .u8 10), (.bool true)]) h_1) (sEq x1_1 (.int .u8 10) fun x32 =>
  sAnd x32 (fun k =>
  sOff x2 0 fun x34 =>
  sLd h_1 x34 fun x35 =>
  sBits .and .i64 x35 (.int .i64 8) fun x36 =>
  sNe x36 (.int .i64 0) fun x37 =>
  k x37) fun x38 =>
  sIf x38 (R (.tuple #[(.int .u8 13), (.bool true)]) h_1) (R (.tuple #[x1_1, (.bool true)]) h_1)))
def termios_Map_S (x0 x1 : Value) (h : Heap) (R : Value → Heap → Prop) : Prop :=
  sBox h x0 28 fun x2 h => 
  sOff x2 0 fun x6 =>
  sLd h x6 fun x7 =>
  sBits .and .i64 x7 (.int .i64 1) fun x8 =>
  sNe x8 (.int .i64 0) fun x9 =>
  sIf x9 (sBits .and .u8 x1 (.int .u8 127) fun x11 =>
  termios_Map_j1 R x2 x11 h) (termios_Map_j1 R x2 x1 h)
set_option maxRecDepth 100000 in
theorem termios_Map_runs {x0 x1 : Value} {h : Heap} {R : Value → Heap → Prop} (H : termios_Map_S x0 x1 h R) : termios_Map_c x0 x1 h R := by
  unfold termios_Map_S at H
  refine runs_of (b := ⟨#[x0, x1, undef, undef, undef, undef, undef, undef, undef, undef, undef, undef, undef, undef, undef, undef, undef, undef, undef, undef, undef, undef, undef, undef, undef, undef, undef, undef, undef, undef, undef, undef, undef, undef, undef, undef, undef, undef, undef, undef], []⟩) Try.call63 Try.func63 rfl (by kernel_rfl) (fun w0 HA => ?_)
  refine wp_seq ?_
  refine lwp_list ?_
  refine ls_d (d := some 2) (by kernel_rfl) (by kernel_rfl) HA (d_box (by kernel_rfl) H) (fun x2 h w H HA => ?_)
  refine ls_assign (x := (.int .u8 0)) (by kernel_rfl) (by kernel_rfl) ?_
  refine ls_assign (x := (.bool false)) (by kernel_rfl) (by kernel_rfl) ?_
  refine ls_nil ?_
  refine then_normal ?_
  refine fr_eq (b := ⟨#[x0, x1, x2, undef, (.int .u8 0), (.bool false), undef, undef, undef, undef, undef, undef, undef, undef, undef, undef, undef, undef, undef, undef, undef, undef, undef, undef, undef, undef, undef, undef, undef, undef, undef, undef, undef, undef, undef, undef, undef, undef, undef, undef], []⟩) (by kernel_rfl) ?_
  refine wp_seq ?_
  refine wp_seq ?_
  refine lwp_list ?_
  refine ls_p (d := some 6) (by kernel_rfl) (by kernel_rfl) (p_off Try.underlying28 rfl (fun w => ⟨_, Try.sizeOf3 w⟩) rfl (by kernel_rfl) H) (fun x6 H => ?_)
  refine ls_y (d := some 7) (by kernel_rfl) (by kernel_rfl) HA (y_ld Try.isAgg3 (by kernel_rfl) H) (fun x7 H => ?_)
  refine ls_p (d := some 8) (by kernel_rfl) (by kernel_rfl) (p_bits (by decide) (by kernel_rfl) (by kernel_rfl) H) (fun x8 H => ?_)
  refine ls_p (d := some 9) (by kernel_rfl) (by kernel_rfl) (p_sNe (by kernel_rfl) (by kernel_rfl) H) (fun x9 H => ?_)
  refine ls_nil ?_
  refine then_normal ?_
  refine fr_eq (b := ⟨#[x0, x1, x2, undef, (.int .u8 0), (.bool false), x6, x7, x8, x9, undef, undef, undef, undef, undef, undef, undef, undef, undef, undef, undef, undef, undef, undef, undef, undef, undef, undef, undef, undef, undef, undef, undef, undef, undef, undef, undef, undef, undef, undef], []⟩) (by kernel_rfl) ?_
  refine wp_join (fun a w => ∃ (D : Nat → Value) (x1_1 : Value) (h_1 : Heap), a = ⟨#[x0, x1_1, x2, undef, (.int .u8 0), (.bool false), x6, x7, x8, x9, (D 0), (D 1), undef, undef, undef, undef, undef, undef, undef, undef, undef, undef, undef, undef, undef, undef, undef, undef, undef, undef, undef, undef, undef, undef, undef, undef, undef, undef, undef, undef], []⟩ ∧ At w0 w h_1 ∧ termios_Map_j1 R x2 x1_1 h_1) ?_ ?_
  · refine wp_if rfl H (fun H => ?_) (fun H => ?_)
    · refine lwp_list ?_
      refine ls_move (x := x1) (by kernel_rfl) (by kernel_rfl) ?_
      refine ls_p (d := some 11) (by kernel_rfl) (by kernel_rfl) (p_bits (by decide) (by kernel_rfl) (by kernel_rfl) H) (fun x11 H => ?_)
      refine ls_assign (x := x11) (by kernel_rfl) (by kernel_rfl) ?_
      refine ls_nil ?_
      exact ⟨(fun i => ([x1, x11]).getD i undef), x11, h, by kernel_rfl, HA, H⟩
    · refine wp_skip ?_
      exact ⟨(fun i => ([undef, undef]).getD i undef), x1, h, by kernel_rfl, HA, H⟩
  · rintro _ w_1 ⟨D, x1_1, h_1, rfl, HA_1, H⟩
    unfold termios_Map_j1 at H
    refine then_normal ?_
    refine fr_eq (b := ⟨#[x0, x1_1, x2, undef, (.int .u8 0), (.bool false), x6, x7, x8, x9, (D 0), (D 1), undef, undef, undef, undef, undef, undef, undef, undef, undef, undef, undef, undef, undef, undef, undef, undef, undef, undef, undef, undef, undef, undef, undef, undef, undef, undef, undef, undef], []⟩) (by kernel_rfl) ?_
    refine wp_seq ?_
    refine wp_block ?_
    refine wp_seq ?_
    refine lwp_list ?_
    refine ls_move (x := x1_1) (by kernel_rfl) (by kernel_rfl) ?_
    refine ls_p (d := some 14) (by kernel_rfl) (by kernel_rfl) (p_sEq (by kernel_rfl) (by kernel_rfl) H) (fun x14 H => ?_)
    refine ls_move (x := x14) (by kernel_rfl) (by kernel_rfl) ?_
    refine ls_and [(), (), (), (), ()] (fun K a w => ∃ (D_1 : Nat → Value) (x20 : Value), a = ⟨#[x0, x1_1, x2, undef, (.int .u8 0), (.bool false), x6, x7, x8, x9, (D 0), (D 1), undef, x1_1, x14, x14, (D_1 0), (D_1 1), (D_1 2), (D_1 3), x20, undef, undef, undef, undef, undef, undef, undef, undef, undef, undef, undef, undef, undef, undef, undef, undef, undef, undef, undef], []⟩ ∧ At w0 w h_1 ∧ K x20) H (fun hb_2 H => ?_) (fun hb_2 H => ?_) ?_
    · refine ls_p (d := some 16) (by kernel_rfl) (by rw [hb_2]; kernel_rfl) (p_off Try.underlying28 rfl (fun w => ⟨_, Try.sizeOf3 w⟩) rfl (by kernel_rfl) H) (fun x16 H => ?_)
      refine ls_y (d := some 17) (by kernel_rfl) (by rw [hb_2]; kernel_rfl) HA_1 (y_ld Try.isAgg3 (by kernel_rfl) H) (fun x17 H => ?_)
      refine ls_p (d := some 18) (by kernel_rfl) (by rw [hb_2]; kernel_rfl) (p_bits (by decide) (by kernel_rfl) (by kernel_rfl) H) (fun x18 H => ?_)
      refine ls_fr (b := ⟨#[x0, x1_1, x2, undef, (.int .u8 0), (.bool false), x6, x7, x8, x9, (D 0), (D 1), undef, x1_1, x14, x14, x16, x17, x18, undef, undef, undef, undef, undef, undef, undef, undef, undef, undef, undef, undef, undef, undef, undef, undef, undef, undef, undef, undef, undef], []⟩) (by kernel_rfl) ?_
      refine ls_p (d := some 19) (by kernel_rfl) (by rw [hb_2]; kernel_rfl) (p_sNe (by kernel_rfl) (by kernel_rfl) H) (fun x19 H => ?_)
      refine ls_pick_t (x := x19) (by kernel_rfl) (by rw [hb_2]; kernel_rfl) (by kernel_rfl) ?_
      refine ls_nil ?_
      refine then_normal ?_
      exact ⟨(fun i => ([x16, x17, x18, x19]).getD i undef), x19, by kernel_rfl, HA_1, H⟩
    · refine ls_skip (d := some 16) (by kernel_rfl) (by rw [hb_2]; kernel_rfl) ?_
      refine ls_skip (d := some 17) (by kernel_rfl) (by rw [hb_2]; kernel_rfl) ?_
      refine ls_skip (d := some 18) (by kernel_rfl) (by rw [hb_2]; kernel_rfl) ?_
      refine ls_fr (b := ⟨#[x0, x1_1, x2, undef, (.int .u8 0), (.bool false), x6, x7, x8, x9, (D 0), (D 1), undef, x1_1, x14, x14, undef, undef, undef, undef, undef, undef, undef, undef, undef, undef, undef, undef, undef, undef, undef, undef, undef, undef, undef, undef, undef, undef, undef, undef], []⟩) (by kernel_rfl) ?_
      refine ls_skip (d := some 19) (by kernel_rfl) (by rw [hb_2]; kernel_rfl) ?_
      refine ls_pick_f (y := (.bool false)) (by kernel_rfl) (by rw [hb_2]; kernel_rfl) (by kernel_rfl) ?_
      refine ls_nil ?_
      refine then_normal ?_
      exact ⟨(fun i => ([undef, undef, undef, undef]).getD i undef), (.bool false), by kernel_rfl, HA_1, H⟩
    · rintro _ w_2 ⟨D_1, x20, rfl, HA_2, H⟩
      refine ls_assign (x := x20) (by kernel_rfl) (by kernel_rfl) ?_
      refine ls_nil ?_
      refine then_normal ?_
      refine fr_eq (b := ⟨#[x0, x1_1, x2, undef, (.int .u8 0), (.bool false), x6, x7, x8, x9, (D 0), (D 1), x20, x1_1, x14, x14, (D_1 0), (D_1 1), (D_1 2), (D_1 3), x20, undef, undef, undef, undef, undef, undef, undef, undef, undef, undef, undef, undef, undef, undef, undef, undef, undef, undef, undef], []⟩) (by kernel_rfl) ?_
      refine wp_if rfl H (fun H => ?_) (fun H => ?_)
      · refine wp_seq ?_
        refine lwp_list ?_
        refine ls_assign (x := (.int .u8 0)) (by kernel_rfl) (by kernel_rfl) ?_
        refine ls_assign (x := (.bool false)) (by kernel_rfl) (by kernel_rfl) ?_
        refine ls_nil ?_
        refine then_normal ?_
        refine fr_eq (b := ⟨#[x0, x1_1, x2, undef, (.int .u8 0), (.bool false), x6, x7, x8, x9, (D 0), (D 1), x20, x1_1, x14, x14, (D_1 0), (D_1 1), (D_1 2), (D_1 3), x20, undef, undef, undef, undef, undef, undef, undef, undef, undef, undef, undef, undef, undef, undef, undef, undef, undef, undef, undef], []⟩) (by kernel_rfl) ?_
        refine wp_ret ?_
        refine block_ret ?_
        refine then_ret ?_
        exact end2 (Try.results63) (by kernel_rfl) (by kernel_rfl) (by kernel_rfl) HA_2 H _ (.inr rfl)
      · refine wp_seq ?_
        refine lwp_list ?_
        refine ls_move (x := x1_1) (by kernel_rfl) (by kernel_rfl) ?_
        refine ls_p (d := some 23) (by kernel_rfl) (by kernel_rfl) (p_sEq (by kernel_rfl) (by kernel_rfl) H) (fun x23 H => ?_)
        refine ls_move (x := x23) (by kernel_rfl) (by kernel_rfl) ?_
        refine ls_and [(), (), (), (), ()] (fun K a w => ∃ (D_2 : Nat → Value) (x29 : Value), a = ⟨#[x0, x1_1, x2, undef, (.int .u8 0), (.bool false), x6, x7, x8, x9, (D 0), (D 1), x20, x1_1, x14, x14, (D_1 0), (D_1 1), (D_1 2), (D_1 3), x20, undef, x1_1, x23, x23, (D_2 0), (D_2 1), (D_2 2), (D_2 3), x29, undef, undef, undef, undef, undef, undef, undef, undef, undef, undef], []⟩ ∧ At w0 w h_1 ∧ K x29) H (fun hb_1 H => ?_) (fun hb_1 H => ?_) ?_
        · refine ls_p (d := some 25) (by kernel_rfl) (by rw [hb_1]; kernel_rfl) (p_off Try.underlying28 rfl (fun w => ⟨_, Try.sizeOf3 w⟩) rfl (by kernel_rfl) H) (fun x25 H => ?_)
          refine ls_y (d := some 26) (by kernel_rfl) (by rw [hb_1]; kernel_rfl) HA_2 (y_ld Try.isAgg3 (by kernel_rfl) H) (fun x26 H => ?_)
          refine ls_p (d := some 27) (by kernel_rfl) (by rw [hb_1]; kernel_rfl) (p_bits (by decide) (by kernel_rfl) (by kernel_rfl) H) (fun x27 H => ?_)
          refine ls_fr (b := ⟨#[x0, x1_1, x2, undef, (.int .u8 0), (.bool false), x6, x7, x8, x9, (D 0), (D 1), x20, x1_1, x14, x14, (D_1 0), (D_1 1), (D_1 2), (D_1 3), x20, undef, x1_1, x23, x23, x25, x26, x27, undef, undef, undef, undef, undef, undef, undef, undef, undef, undef, undef, undef], []⟩) (by kernel_rfl) ?_
          refine ls_p (d := some 28) (by kernel_rfl) (by rw [hb_1]; kernel_rfl) (p_sNe (by kernel_rfl) (by kernel_rfl) H) (fun x28 H => ?_)
          refine ls_pick_t (x := x28) (by kernel_rfl) (by rw [hb_1]; kernel_rfl) (by kernel_rfl) ?_
          refine ls_nil ?_
          refine then_normal ?_
          exact ⟨(fun i => ([x25, x26, x27, x28]).getD i undef), x28, by kernel_rfl, HA_2, H⟩
        · refine ls_skip (d := some 25) (by kernel_rfl) (by rw [hb_1]; kernel_rfl) ?_
          refine ls_skip (d := some 26) (by kernel_rfl) (by rw [hb_1]; kernel_rfl) ?_
          refine ls_skip (d := some 27) (by kernel_rfl) (by rw [hb_1]; kernel_rfl) ?_
          refine ls_fr (b := ⟨#[x0, x1_1, x2, undef, (.int .u8 0), (.bool false), x6, x7, x8, x9, (D 0), (D 1), x20, x1_1, x14, x14, (D_1 0), (D_1 1), (D_1 2), (D_1 3), x20, undef, x1_1, x23, x23, undef, undef, undef, undef, undef, undef, undef, undef, undef, undef, undef, undef, undef, undef, undef], []⟩) (by kernel_rfl) ?_
          refine ls_skip (d := some 28) (by kernel_rfl) (by rw [hb_1]; kernel_rfl) ?_
          refine ls_pick_f (y := (.bool false)) (by kernel_rfl) (by rw [hb_1]; kernel_rfl) (by kernel_rfl) ?_
          refine ls_nil ?_
          refine then_normal ?_
          exact ⟨(fun i => ([undef, undef, undef, undef]).getD i undef), (.bool false), by kernel_rfl, HA_2, H⟩
        · rintro _ w_3 ⟨D_2, x29, rfl, HA_3, H⟩
          refine ls_assign (x := x29) (by kernel_rfl) (by kernel_rfl) ?_
          refine ls_nil ?_
          refine then_normal ?_
          refine fr_eq (b := ⟨#[x0, x1_1, x2, undef, (.int .u8 0), (.bool false), x6, x7, x8, x9, (D 0), (D 1), x20, x1_1, x14, x14, (D_1 0), (D_1 1), (D_1 2), (D_1 3), x20, x29, x1_1, x23, x23, (D_2 0), (D_2 1), (D_2 2), (D_2 3), x29, undef, undef, undef, undef, undef, undef, undef, undef, undef, undef], []⟩) (by kernel_rfl) ?_
          refine wp_if rfl H (fun H => ?_) (fun H => ?_)
          · refine wp_seq ?_
            refine lwp_list ?_
            refine ls_assign (x := (.int .u8 10)) (by kernel_rfl) (by kernel_rfl) ?_
            refine ls_assign (x := (.bool true)) (by kernel_rfl) (by kernel_rfl) ?_
            refine ls_nil ?_
            refine then_normal ?_
            refine fr_eq (b := ⟨#[x0, x1_1, x2, undef, (.int .u8 10), (.bool true), x6, x7, x8, x9, (D 0), (D 1), x20, x1_1, x14, x14, (D_1 0), (D_1 1), (D_1 2), (D_1 3), x20, x29, x1_1, x23, x23, (D_2 0), (D_2 1), (D_2 2), (D_2 3), x29, undef, undef, undef, undef, undef, undef, undef, undef, undef, undef], []⟩) (by kernel_rfl) ?_
            refine wp_ret ?_
            refine block_ret ?_
            refine then_ret ?_
            exact end2 (Try.results63) (by kernel_rfl) (by kernel_rfl) (by kernel_rfl) HA_3 H _ (.inr rfl)
          · refine wp_seq ?_
            refine lwp_list ?_
            refine ls_move (x := x1_1) (by kernel_rfl) (by kernel_rfl) ?_
            refine ls_p (d := some 32) (by kernel_rfl) (by kernel_rfl) (p_sEq (by kernel_rfl) (by kernel_rfl) H) (fun x32 H => ?_)
            refine ls_move (x := x32) (by kernel_rfl) (by kernel_rfl) ?_
            refine ls_and [(), (), (), (), ()] (fun K a w => ∃ (D_3 : Nat → Value) (x38 : Value), a = ⟨#[x0, x1_1, x2, undef, (.int .u8 0), (.bool false), x6, x7, x8, x9, (D 0), (D 1), x20, x1_1, x14, x14, (D_1 0), (D_1 1), (D_1 2), (D_1 3), x20, x29, x1_1, x23, x23, (D_2 0), (D_2 1), (D_2 2), (D_2 3), x29, undef, x1_1, x32, x32, (D_3 0), (D_3 1), (D_3 2), (D_3 3), x38, undef], []⟩ ∧ At w0 w h_1 ∧ K x38) H (fun hb H => ?_) (fun hb H => ?_) ?_
            · refine ls_p (d := some 34) (by kernel_rfl) (by rw [hb]; kernel_rfl) (p_off Try.underlying28 rfl (fun w => ⟨_, Try.sizeOf3 w⟩) rfl (by kernel_rfl) H) (fun x34 H => ?_)
              refine ls_y (d := some 35) (by kernel_rfl) (by rw [hb]; kernel_rfl) HA_3 (y_ld Try.isAgg3 (by kernel_rfl) H) (fun x35 H => ?_)
              refine ls_p (d := some 36) (by kernel_rfl) (by rw [hb]; kernel_rfl) (p_bits (by decide) (by kernel_rfl) (by kernel_rfl) H) (fun x36 H => ?_)
              refine ls_fr (b := ⟨#[x0, x1_1, x2, undef, (.int .u8 0), (.bool false), x6, x7, x8, x9, (D 0), (D 1), x20, x1_1, x14, x14, (D_1 0), (D_1 1), (D_1 2), (D_1 3), x20, x29, x1_1, x23, x23, (D_2 0), (D_2 1), (D_2 2), (D_2 3), x29, undef, x1_1, x32, x32, x34, x35, x36, undef, undef, undef], []⟩) (by kernel_rfl) ?_
              refine ls_p (d := some 37) (by kernel_rfl) (by rw [hb]; kernel_rfl) (p_sNe (by kernel_rfl) (by kernel_rfl) H) (fun x37 H => ?_)
              refine ls_pick_t (x := x37) (by kernel_rfl) (by rw [hb]; kernel_rfl) (by kernel_rfl) ?_
              refine ls_nil ?_
              refine then_normal ?_
              exact ⟨(fun i => ([x34, x35, x36, x37]).getD i undef), x37, by kernel_rfl, HA_3, H⟩
            · refine ls_skip (d := some 34) (by kernel_rfl) (by rw [hb]; kernel_rfl) ?_
              refine ls_skip (d := some 35) (by kernel_rfl) (by rw [hb]; kernel_rfl) ?_
              refine ls_skip (d := some 36) (by kernel_rfl) (by rw [hb]; kernel_rfl) ?_
              refine ls_fr (b := ⟨#[x0, x1_1, x2, undef, (.int .u8 0), (.bool false), x6, x7, x8, x9, (D 0), (D 1), x20, x1_1, x14, x14, (D_1 0), (D_1 1), (D_1 2), (D_1 3), x20, x29, x1_1, x23, x23, (D_2 0), (D_2 1), (D_2 2), (D_2 3), x29, undef, x1_1, x32, x32, undef, undef, undef, undef, undef, undef], []⟩) (by kernel_rfl) ?_
              refine ls_skip (d := some 37) (by kernel_rfl) (by rw [hb]; kernel_rfl) ?_
              refine ls_pick_f (y := (.bool false)) (by kernel_rfl) (by rw [hb]; kernel_rfl) (by kernel_rfl) ?_
              refine ls_nil ?_
              refine then_normal ?_
              exact ⟨(fun i => ([undef, undef, undef, undef]).getD i undef), (.bool false), by kernel_rfl, HA_3, H⟩
            · rintro _ w_4 ⟨D_3, x38, rfl, HA_4, H⟩
              refine ls_assign (x := x38) (by kernel_rfl) (by kernel_rfl) ?_
              refine ls_nil ?_
              refine then_normal ?_
              refine fr_eq (b := ⟨#[x0, x1_1, x2, undef, (.int .u8 0), (.bool false), x6, x7, x8, x9, (D 0), (D 1), x20, x1_1, x14, x14, (D_1 0), (D_1 1), (D_1 2), (D_1 3), x20, x29, x1_1, x23, x23, (D_2 0), (D_2 1), (D_2 2), (D_2 3), x29, x38, x1_1, x32, x32, (D_3 0), (D_3 1), (D_3 2), (D_3 3), x38, undef], []⟩) (by kernel_rfl) ?_
              refine wp_if rfl H (fun H => ?_) (fun H => ?_)
              · refine wp_seq ?_
                refine lwp_list ?_
                refine ls_assign (x := (.int .u8 13)) (by kernel_rfl) (by kernel_rfl) ?_
                refine ls_assign (x := (.bool true)) (by kernel_rfl) (by kernel_rfl) ?_
                refine ls_nil ?_
                refine then_normal ?_
                refine fr_eq (b := ⟨#[x0, x1_1, x2, undef, (.int .u8 13), (.bool true), x6, x7, x8, x9, (D 0), (D 1), x20, x1_1, x14, x14, (D_1 0), (D_1 1), (D_1 2), (D_1 3), x20, x29, x1_1, x23, x23, (D_2 0), (D_2 1), (D_2 2), (D_2 3), x29, x38, x1_1, x32, x32, (D_3 0), (D_3 1), (D_3 2), (D_3 3), x38, undef], []⟩) (by kernel_rfl) ?_
                refine wp_ret ?_
                refine block_ret ?_
                refine then_ret ?_
                exact end2 (Try.results63) (by kernel_rfl) (by kernel_rfl) (by kernel_rfl) HA_4 H _ (.inr rfl)
              · refine wp_skip ?_
                refine block_normal ?_
                refine then_normal ?_
                refine fr_eq (b := ⟨#[x0, x1_1, x2, undef, (.int .u8 0), (.bool false), x6, x7, x8, x9, (D 0), (D 1), x20, x1_1, x14, x14, (D_1 0), (D_1 1), (D_1 2), (D_1 3), x20, x29, x1_1, x23, x23, (D_2 0), (D_2 1), (D_2 2), (D_2 3), x29, x38, x1_1, x32, x32, (D_3 0), (D_3 1), (D_3 2), (D_3 3), x38, undef], []⟩) (by kernel_rfl) ?_
                refine wp_seq ?_
                refine lwp_list ?_
                refine ls_move (x := x1_1) (by kernel_rfl) (by kernel_rfl) ?_
                refine ls_assign (x := x1_1) (by kernel_rfl) (by kernel_rfl) ?_
                refine ls_assign (x := (.bool true)) (by kernel_rfl) (by kernel_rfl) ?_
                refine ls_nil ?_
                refine then_normal ?_
                refine fr_eq (b := ⟨#[x0, x1_1, x2, undef, x1_1, (.bool true), x6, x7, x8, x9, (D 0), (D 1), x20, x1_1, x14, x14, (D_1 0), (D_1 1), (D_1 2), (D_1 3), x20, x29, x1_1, x23, x23, (D_2 0), (D_2 1), (D_2 2), (D_2 3), x29, x38, x1_1, x32, x32, (D_3 0), (D_3 1), (D_3 2), (D_3 3), x38, x1_1], []⟩) (by kernel_rfl) ?_
                refine wp_ret ?_
                exact end2 (Try.results63) (by kernel_rfl) (by kernel_rfl) (by kernel_rfl) HA_4 H _ (.inr rfl)

end Go.Proofs.Ytlcklnbgknhhkaa
