/- The shallow reading of one function, and that the function does it. Written by a program. -/
import Derived.Test.YtlcklnbgknhhkaaFnC
set_option linter.unusedVariables false
namespace Go.Proofs.Ytlcklnbgknhhkaa
open Go Go.HW

def termios_Right_l1 (R : Value → Heap → Prop) (x1 x6 : Value) (next : Value → Heap → Prop) (x7 : Value) (h_1 : Heap) : Prop :=
  sLt x7 (.int .i64 12) fun x8 =>
  sIf x8 (sIxV x6 x7 12 fun x9 =>
  termios_isByte_c x9 h_1 fun x11 h_2 => 
  sNot x11 fun x12 =>
  sIf x12 (R (.bool false) h_2) (sAdd .i64 x7 (.int .i64 1) fun x13 =>
  next x13 h_2)) (sOff x1 0 fun x14 =>
  sLd h_1 x14 fun x15 =>
  termios_within_c x15 (.int .i64 127) h_1 fun x16 h_3 => 
  sAndH x16 h_3 (fun k_3 =>
  sOff x1 1 fun x18 =>
  sLd h_3 x18 fun x19 =>
  termios_within_c x19 (.int .i64 63) h_3 fun x20 h_11 => 
  k_3 x20 h_11) fun x21 h_4 =>
  sAndH x21 h_4 (fun k_2 =>
  sOff x1 2 fun x23 =>
  sLd h_4 x23 fun x24 =>
  termios_within_c x24 (.int .i64 1023) h_4 fun x25 h_10 => 
  k_2 x25 h_10) fun x26 h_5 =>
  sAndH x26 h_5 (fun k_1 =>
  sOff x1 15 fun x28 =>
  sLd h_5 x28 fun x29 =>
  termios_isByte_c x29 h_5 fun x30 h_9 => 
  k_1 x30 h_9) fun x31 h_6 =>
  sAndH x31 h_6 (fun k =>
  sOff x1 16 fun x33 =>
  sLd h_6 x33 fun x34 =>
  termios_isByte_c x34 h_6 fun x35 h_8 => 
  k x35 h_8) fun x36 h_7 =>
  R x36 h_7)
def termios_Right_S (x0 : Value) (h : Heap) (R : Value → Heap → Prop) : Prop :=
  sBox h x0 28 fun x1 h => 
  sOff x1 3 fun x5 =>
  sLdN h x5 12 fun x6 =>
  sLoop (S := Value) (fun nxt s h => termios_Right_l1 R x1 x6 (fun x7' h => nxt x7' h) s h) (.int .i64 0) h
set_option maxRecDepth 100000 in
theorem termios_Right_runs {x0 : Value} {h : Heap} {R : Value → Heap → Prop} (H : termios_Right_S x0 h R) : termios_Right_c x0 h R := by
  unfold termios_Right_S at H
  refine runs_of (b := ⟨#[x0, undef, undef, undef, undef, undef, undef, undef, undef, undef, undef, undef, undef, undef, undef, undef, undef, undef, undef, undef, undef, undef, undef, undef, undef, undef, undef, undef, undef, undef, undef, undef, undef, undef, undef, undef, undef], []⟩) Try.call40 Try.func40 rfl (by kernel_rfl) (fun w0 HA => ?_)
  refine wp_seq ?_
  refine lwp_list ?_
  refine ls_d (d := some 1) (by kernel_rfl) (by kernel_rfl) HA (d_box (by kernel_rfl) H) (fun x1 h w H HA => ?_)
  refine ls_assign (x := (.bool false)) (by kernel_rfl) (by kernel_rfl) ?_
  refine ls_nil ?_
  refine then_normal ?_
  refine fr_eq (b := ⟨#[x0, x1, (.bool false), undef, undef, undef, undef, undef, undef, undef, undef, undef, undef, undef, undef, undef, undef, undef, undef, undef, undef, undef, undef, undef, undef, undef, undef, undef, undef, undef, undef, undef, undef, undef, undef, undef, undef], []⟩) (by kernel_rfl) ?_
  refine wp_seq ?_
  refine wp_seq ?_
  refine lwp_list ?_
  refine ls_p (d := some 5) (by kernel_rfl) (by kernel_rfl) (p_off Try.underlying28 rfl (fun w => ⟨_, Try.sizeOf26 w⟩) rfl (by kernel_rfl) H) (fun x5 H => ?_)
  refine ls_y (d := some 6) (by kernel_rfl) (by kernel_rfl) HA (y_ldn Try.isAgg26 Try.sizeOf26 (by kernel_rfl) H) (fun x6 H => ?_)
  refine ls_move (x := (.int .i64 0)) (by kernel_rfl) (by kernel_rfl) ?_
  refine ls_nil ?_
  refine then_normal ?_
  refine fr_eq (b := ⟨#[x0, x1, (.bool false), undef, undef, x5, x6, (.int .i64 0), undef, undef, undef, undef, undef, undef, undef, undef, undef, undef, undef, undef, undef, undef, undef, undef, undef, undef, undef, undef, undef, undef, undef, undef, undef, undef, undef, undef, undef], []⟩) (by kernel_rfl) ?_
  refine wp_block ?_
  obtain ⟨I, m, H0, HB⟩ := H
  refine wp_loop (fun a w => ∃ (D : Nat → Value) (x7 : Value) (h_1 : Heap), a = ⟨#[x0, x1, (D 0), undef, (D 1), x5, x6, x7, (D 2), (D 3), (D 4), (D 5), (D 6), (D 7), undef, undef, undef, undef, undef, undef, undef, undef, undef, undef, undef, undef, undef, undef, undef, undef, undef, undef, undef, undef, undef, undef, undef], []⟩ ∧ At w0 w h_1 ∧ I x7 h_1) (fun a w => m (a.tmps.getD 7 undef) w.heap) ?_ ?_
  · exact ⟨(fun i => ([(.bool false), undef, undef, undef, undef, undef, undef, undef]).getD i undef), (.int .i64 0), h, by kernel_rfl, HA, H0⟩
  · rintro _ w_1 ⟨D, x7, h_1, rfl, HA_1, HI⟩
    have H : termios_Right_l1 R x1 x6 (fun x7' h' => I x7' h' ∧ m x7' h' < m x7 h_1) x7 h_1 := HB x7 h_1 HI
    clear HB H0 HI
    unfold termios_Right_l1 at H
    refine wp_seq ?_
    refine lwp_list ?_
    refine ls_p (d := some 8) (by kernel_rfl) (by kernel_rfl) (p_sLt (by kernel_rfl) (by kernel_rfl) H) (fun x8 H => ?_)
    refine ls_nil ?_
    refine then_normal ?_
    refine fr_eq (b := ⟨#[x0, x1, (D 0), undef, (D 1), x5, x6, x7, x8, (D 3), (D 4), (D 5), (D 6), (D 7), undef, undef, undef, undef, undef, undef, undef, undef, undef, undef, undef, undef, undef, undef, undef, undef, undef, undef, undef, undef, undef, undef, undef], []⟩) (by kernel_rfl) ?_
    refine wp_seq ?_
    refine wp_if rfl H (fun H => ?_) (fun H => ?_)
    · refine wp_skip ?_
      refine then_normal ?_
      refine fr_eq (b := ⟨#[x0, x1, (D 0), undef, (D 1), x5, x6, x7, x8, (D 3), (D 4), (D 5), (D 6), (D 7), undef, undef, undef, undef, undef, undef, undef, undef, undef, undef, undef, undef, undef, undef, undef, undef, undef, undef, undef, undef, undef, undef, undef], []⟩) (by kernel_rfl) ?_
      refine wp_seq ?_
      refine wp_block ?_
      refine wp_seq ?_
      refine lwp_list ?_
      refine ls_p (d := some 9) (by kernel_rfl) (by kernel_rfl) (p_ixv Try.underlying26 Try.sizeOf3 Try.isAgg3 (by kernel_rfl) (by kernel_rfl) H) (fun x9 H => ?_)
      refine ls_assign (x := x9) (by kernel_rfl) (by kernel_rfl) ?_
      refine ls_nil ?_
      refine then_normal ?_
      refine fr_eq (b := ⟨#[x0, x1, (D 0), undef, x9, x5, x6, x7, x8, x9, (D 4), (D 5), (D 6), (D 7), undef, undef, undef, undef, undef, undef, undef, undef, undef, undef, undef, undef, undef, undef, undef, undef, undef, undef, undef, undef, undef, undef, undef], []⟩) (by kernel_rfl) ?_
      refine wp_seq ?_
      refine lwp_list ?_
      refine ls_move (x := x9) (by kernel_rfl) (by kernel_rfl) ?_
      refine ls_d (d := some 11) (by kernel_rfl) (by kernel_rfl) HA_1 (d_call (by kernel_rfl) (by kernel_rfl) H) (fun x11 h_2 w_2 H HA_2 => ?_)
      refine ls_p (d := some 12) (by kernel_rfl) (by kernel_rfl) (p_not (by kernel_rfl) H) (fun x12 H => ?_)
      refine ls_nil ?_
      refine then_normal ?_
      refine fr_eq (b := ⟨#[x0, x1, (D 0), undef, x9, x5, x6, x7, x8, x9, x9, x11, x12, (D 7), undef, undef, undef, undef, undef, undef, undef, undef, undef, undef, undef, undef, undef, undef, undef, undef, undef, undef, undef, undef, undef, undef, undef], []⟩) (by kernel_rfl) ?_
      refine wp_if rfl H (fun H => ?_) (fun H => ?_)
      · refine wp_seq ?_
        refine lwp_list ?_
        refine ls_assign (x := (.bool false)) (by kernel_rfl) (by kernel_rfl) ?_
        refine ls_nil ?_
        refine then_normal ?_
        refine fr_eq (b := ⟨#[x0, x1, (.bool false), undef, x9, x5, x6, x7, x8, x9, x9, x11, x12, (D 7), undef, undef, undef, undef, undef, undef, undef, undef, undef, undef, undef, undef, undef, undef, undef, undef, undef, undef, undef, undef, undef, undef, undef], []⟩) (by kernel_rfl) ?_
        refine wp_ret ?_
        refine block_ret ?_
        refine then_ret ?_
        refine then_ret ?_
        refine block_ret ?_
        refine then_ret ?_
        exact end1 (Try.results40) (by kernel_rfl) (by kernel_rfl) HA_2 H _ (.inr rfl)
      · refine wp_skip ?_
        refine block_normal ?_
        refine then_normal ?_
        refine fr_eq (b := ⟨#[x0, x1, (D 0), undef, x9, x5, x6, x7, x8, x9, x9, x11, x12, (D 7), undef, undef, undef, undef, undef, undef, undef, undef, undef, undef, undef, undef, undef, undef, undef, undef, undef, undef, undef, undef, undef, undef, undef], []⟩) (by kernel_rfl) ?_
        refine lwp_list ?_
        refine ls_p (d := some 13) (by kernel_rfl) (by kernel_rfl) (p_add (by kernel_rfl) (by kernel_rfl) H) (fun x13 H => ?_)
        refine ls_move (x := x13) (by kernel_rfl) (by kernel_rfl) ?_
        refine ls_nil ?_
        exact ⟨⟨(fun i => ([(D 0), x9, x8, x9, x9, x11, x12, x13]).getD i undef), x13, h_2, by kernel_rfl, HA_2, H.1⟩, loop_lt HA_2.heap HA_1.heap (by kernel_rfl) (by kernel_rfl) H.2⟩
    · refine wp_exit ?_
      refine then_exit ?_
      refine then_exit ?_
      refine block_exit ?_
      refine then_normal ?_
      refine fr_eq (b := ⟨#[x0, x1, (D 0), undef, (D 1), x5, x6, x7, x8, (D 3), (D 4), (D 5), (D 6), (D 7), undef, undef, undef, undef, undef, undef, undef, undef, undef, undef, undef, undef, undef, undef, undef, undef, undef, undef, undef, undef, undef, undef, undef], []⟩) (by kernel_rfl) ?_
      refine wp_seq ?_
      refine lwp_list ?_
      refine ls_p (d := some 14) (by kernel_rfl) (by kernel_rfl) (p_off Try.underlying28 rfl (fun w => ⟨_, Try.sizeOf3 w⟩) rfl (by kernel_rfl) H) (fun x14 H => ?_)
      refine ls_y (d := some 15) (by kernel_rfl) (by kernel_rfl) HA_1 (y_ld Try.isAgg3 (by kernel_rfl) H) (fun x15 H => ?_)
      refine ls_d (d := some 16) (by kernel_rfl) (by kernel_rfl) HA_1 (d_call (by kernel_rfl) (by kernel_rfl) H) (fun x16 h_3 w_3 H HA_3 => ?_)
      refine ls_move (x := x16) (by kernel_rfl) (by kernel_rfl) ?_
      refine ls_andh [(), (), (), ()] (fun K a w => ∃ (D_1 : Nat → Value) (x21 : Value) (h_4 : Heap), a = ⟨#[x0, x1, (D 0), undef, (D 1), x5, x6, x7, x8, (D 3), (D 4), (D 5), (D 6), (D 7), x14, x15, x16, x16, (D_1 0), (D_1 1), (D_1 2), x21, undef, undef, undef, undef, undef, undef, undef, undef, undef, undef, undef, undef, undef, undef, undef], []⟩ ∧ At w0 w h_4 ∧ K x21 h_4) H (fun hb_3 H => ?_) (fun hb_3 H => ?_) ?_
      · refine ls_p (d := some 18) (by kernel_rfl) (by rw [hb_3]; kernel_rfl) (p_off Try.underlying28 rfl (fun w => ⟨_, Try.sizeOf3 w⟩) rfl (by kernel_rfl) H) (fun x18 H => ?_)
        refine ls_y (d := some 19) (by kernel_rfl) (by rw [hb_3]; kernel_rfl) HA_3 (y_ld Try.isAgg3 (by kernel_rfl) H) (fun x19 H => ?_)
        refine ls_fr (b := ⟨#[x0, x1, (D 0), undef, (D 1), x5, x6, x7, x8, (D 3), (D 4), (D 5), (D 6), (D 7), x14, x15, x16, x16, x18, x19, undef, undef, undef, undef, undef, undef, undef, undef, undef, undef, undef, undef, undef, undef, undef, undef, undef], []⟩) (by kernel_rfl) ?_
        refine ls_d (d := some 20) (by kernel_rfl) (by rw [hb_3]; kernel_rfl) HA_3 (d_call (by kernel_rfl) (by kernel_rfl) H) (fun x20 h_11 w_11 H HA_11 => ?_)
        refine ls_pick_t (x := x20) (by kernel_rfl) (by rw [hb_3]; kernel_rfl) (by kernel_rfl) ?_
        refine ls_nil ?_
        refine then_normal ?_
        exact ⟨(fun i => ([x18, x19, x20]).getD i undef), x20, h_11, by kernel_rfl, HA_11, H⟩
      · refine ls_skip (d := some 18) (by kernel_rfl) (by rw [hb_3]; kernel_rfl) ?_
        refine ls_skip (d := some 19) (by kernel_rfl) (by rw [hb_3]; kernel_rfl) ?_
        refine ls_fr (b := ⟨#[x0, x1, (D 0), undef, (D 1), x5, x6, x7, x8, (D 3), (D 4), (D 5), (D 6), (D 7), x14, x15, x16, x16, undef, undef, undef, undef, undef, undef, undef, undef, undef, undef, undef, undef, undef, undef, undef, undef, undef, undef, undef], []⟩) (by kernel_rfl) ?_
        refine ls_skip (d := some 20) (by kernel_rfl) (by rw [hb_3]; kernel_rfl) ?_
        refine ls_pick_f (y := (.bool false)) (by kernel_rfl) (by rw [hb_3]; kernel_rfl) (by kernel_rfl) ?_
        refine ls_nil ?_
        refine then_normal ?_
        exact ⟨(fun i => ([undef, undef, undef]).getD i undef), (.bool false), h_3, by kernel_rfl, HA_3, H⟩
      · rintro _ w_4 ⟨D_1, x21, h_4, rfl, HA_4, H⟩
        refine ls_move (x := x21) (by kernel_rfl) (by kernel_rfl) ?_
        refine ls_andh [(), (), (), ()] (fun K a w => ∃ (D_2 : Nat → Value) (x26 : Value) (h_5 : Heap), a = ⟨#[x0, x1, (D 0), undef, (D 1), x5, x6, x7, x8, (D 3), (D 4), (D 5), (D 6), (D 7), x14, x15, x16, x16, (D_1 0), (D_1 1), (D_1 2), x21, x21, (D_2 0), (D_2 1), (D_2 2), x26, undef, undef, undef, undef, undef, undef, undef, undef, undef, undef], []⟩ ∧ At w0 w h_5 ∧ K x26 h_5) H (fun hb_2 H => ?_) (fun hb_2 H => ?_) ?_
        · refine ls_p (d := some 23) (by kernel_rfl) (by rw [hb_2]; kernel_rfl) (p_off Try.underlying28 rfl (fun w => ⟨_, Try.sizeOf3 w⟩) rfl (by kernel_rfl) H) (fun x23 H => ?_)
          refine ls_y (d := some 24) (by kernel_rfl) (by rw [hb_2]; kernel_rfl) HA_4 (y_ld Try.isAgg3 (by kernel_rfl) H) (fun x24 H => ?_)
          refine ls_d (d := some 25) (by kernel_rfl) (by rw [hb_2]; kernel_rfl) HA_4 (d_call (by kernel_rfl) (by kernel_rfl) H) (fun x25 h_10 w_10 H HA_10 => ?_)
          refine ls_pick_t (x := x25) (by kernel_rfl) (by rw [hb_2]; kernel_rfl) (by kernel_rfl) ?_
          refine ls_nil ?_
          refine then_normal ?_
          exact ⟨(fun i => ([x23, x24, x25]).getD i undef), x25, h_10, by kernel_rfl, HA_10, H⟩
        · refine ls_skip (d := some 23) (by kernel_rfl) (by rw [hb_2]; kernel_rfl) ?_
          refine ls_skip (d := some 24) (by kernel_rfl) (by rw [hb_2]; kernel_rfl) ?_
          refine ls_skip (d := some 25) (by kernel_rfl) (by rw [hb_2]; kernel_rfl) ?_
          refine ls_pick_f (y := (.bool false)) (by kernel_rfl) (by rw [hb_2]; kernel_rfl) (by kernel_rfl) ?_
          refine ls_nil ?_
          refine then_normal ?_
          exact ⟨(fun i => ([undef, undef, undef]).getD i undef), (.bool false), h_4, by kernel_rfl, HA_4, H⟩
        · rintro _ w_5 ⟨D_2, x26, h_5, rfl, HA_5, H⟩
          refine ls_move (x := x26) (by kernel_rfl) (by kernel_rfl) ?_
          refine ls_andh [(), (), (), ()] (fun K a w => ∃ (D_3 : Nat → Value) (x31 : Value) (h_6 : Heap), a = ⟨#[x0, x1, (D 0), undef, (D 1), x5, x6, x7, x8, (D 3), (D 4), (D 5), (D 6), (D 7), x14, x15, x16, x16, (D_1 0), (D_1 1), (D_1 2), x21, x21, (D_2 0), (D_2 1), (D_2 2), x26, x26, (D_3 0), (D_3 1), (D_3 2), x31, undef, undef, undef, undef, undef], []⟩ ∧ At w0 w h_6 ∧ K x31 h_6) H (fun hb_1 H => ?_) (fun hb_1 H => ?_) ?_
          · refine ls_p (d := some 28) (by kernel_rfl) (by rw [hb_1]; kernel_rfl) (p_off Try.underlying28 rfl (fun w => ⟨_, Try.sizeOf3 w⟩) rfl (by kernel_rfl) H) (fun x28 H => ?_)
            refine ls_y (d := some 29) (by kernel_rfl) (by rw [hb_1]; kernel_rfl) HA_5 (y_ld Try.isAgg3 (by kernel_rfl) H) (fun x29 H => ?_)
            refine ls_d (d := some 30) (by kernel_rfl) (by rw [hb_1]; kernel_rfl) HA_5 (d_call (by kernel_rfl) (by kernel_rfl) H) (fun x30 h_9 w_9 H HA_9 => ?_)
            refine ls_pick_t (x := x30) (by kernel_rfl) (by rw [hb_1]; kernel_rfl) (by kernel_rfl) ?_
            refine ls_nil ?_
            refine then_normal ?_
            exact ⟨(fun i => ([x28, x29, x30]).getD i undef), x30, h_9, by kernel_rfl, HA_9, H⟩
          · refine ls_skip (d := some 28) (by kernel_rfl) (by rw [hb_1]; kernel_rfl) ?_
            refine ls_skip (d := some 29) (by kernel_rfl) (by rw [hb_1]; kernel_rfl) ?_
            refine ls_skip (d := some 30) (by kernel_rfl) (by rw [hb_1]; kernel_rfl) ?_
            refine ls_pick_f (y := (.bool false)) (by kernel_rfl) (by rw [hb_1]; kernel_rfl) (by kernel_rfl) ?_
            refine ls_nil ?_
            refine then_normal ?_
            exact ⟨(fun i => ([undef, undef, undef]).getD i undef), (.bool false), h_5, by kernel_rfl, HA_5, H⟩
          · rintro _ w_6 ⟨D_3, x31, h_6, rfl, HA_6, H⟩
            refine ls_move (x := x31) (by kernel_rfl) (by kernel_rfl) ?_
            refine ls_andh [(), (), (), ()] (fun K a w => ∃ (D_4 : Nat → Value) (x36 : Value) (h_7 : Heap), a = ⟨#[x0, x1, (D 0), undef, (D 1), x5, x6, x7, x8, (D 3), (D 4), (D 5), (D 6), (D 7), x14, x15, x16, x16, (D_1 0), (D_1 1), (D_1 2), x21, x21, (D_2 0), (D_2 1), (D_2 2), x26, x26, (D_3 0), (D_3 1), (D_3 2), x31, x31, (D_4 0), (D_4 1), (D_4 2), x36], []⟩ ∧ At w0 w h_7 ∧ K x36 h_7) H (fun hb H => ?_) (fun hb H => ?_) ?_
            · refine ls_p (d := some 33) (by kernel_rfl) (by rw [hb]; kernel_rfl) (p_off Try.underlying28 rfl (fun w => ⟨_, Try.sizeOf3 w⟩) rfl (by kernel_rfl) H) (fun x33 H => ?_)
              refine ls_y (d := some 34) (by kernel_rfl) (by rw [hb]; kernel_rfl) HA_6 (y_ld Try.isAgg3 (by kernel_rfl) H) (fun x34 H => ?_)
              refine ls_d (d := some 35) (by kernel_rfl) (by rw [hb]; kernel_rfl) HA_6 (d_call (by kernel_rfl) (by kernel_rfl) H) (fun x35 h_8 w_8 H HA_8 => ?_)
              refine ls_pick_t (x := x35) (by kernel_rfl) (by rw [hb]; kernel_rfl) (by kernel_rfl) ?_
              refine ls_nil ?_
              refine then_normal ?_
              exact ⟨(fun i => ([x33, x34, x35]).getD i undef), x35, h_8, by kernel_rfl, HA_8, H⟩
            · refine ls_skip (d := some 33) (by kernel_rfl) (by rw [hb]; kernel_rfl) ?_
              refine ls_skip (d := some 34) (by kernel_rfl) (by rw [hb]; kernel_rfl) ?_
              refine ls_skip (d := some 35) (by kernel_rfl) (by rw [hb]; kernel_rfl) ?_
              refine ls_pick_f (y := (.bool false)) (by kernel_rfl) (by rw [hb]; kernel_rfl) (by kernel_rfl) ?_
              refine ls_nil ?_
              refine then_normal ?_
              exact ⟨(fun i => ([undef, undef, undef]).getD i undef), (.bool false), h_6, by kernel_rfl, HA_6, H⟩
            · rintro _ w_7 ⟨D_4, x36, h_7, rfl, HA_7, H⟩
              refine ls_assign (x := x36) (by kernel_rfl) (by kernel_rfl) ?_
              refine ls_nil ?_
              refine then_normal ?_
              refine fr_eq (b := ⟨#[x0, x1, x36, undef, (D 1), x5, x6, x7, x8, (D 3), (D 4), (D 5), (D 6), (D 7), x14, x15, x16, x16, (D_1 0), (D_1 1), (D_1 2), x21, x21, (D_2 0), (D_2 1), (D_2 2), x26, x26, (D_3 0), (D_3 1), (D_3 2), x31, x31, (D_4 0), (D_4 1), (D_4 2), x36], []⟩) (by kernel_rfl) ?_
              refine wp_ret ?_
              exact end1 (Try.results40) (by kernel_rfl) (by kernel_rfl) HA_7 H _ (.inr rfl)

end Go.Proofs.Ytlcklnbgknhhkaa
