/- The shallow reading of one function, and that the function does it. Written by a program. -/
import Derived.Test.YtlcklnbgknhhkaaFnC
set_option linter.unusedVariables false
namespace Go.Proofs.Ytlcklnbgknhhkaa
open Go Go.HW

def ldisc_Disc_byte_j1 (R : Value → Heap → Prop) (x0 x1_1 : Value) (h_2 : Heap) : Prop :=
  ldisc_Disc_put_c x0 x1_1 h_2 fun x20 h_3 => 
  R (.int .i64 0) h_3
def ldisc_Disc_byte_j2 (R : Value → Heap → Prop) (x39 : Value) (h_9 : Heap) : Prop :=
  R x39 h_9
def ldisc_Disc_byte_j3 (R : Value → Heap → Prop) (h_13 : Heap) : Prop :=
  R (.int .i64 0) h_13
def ldisc_Disc_byte_S (x0 x1 : Value) (h : Heap) (R : Value → Heap → Prop) : Prop :=
  sNil x0 fun x8 =>
  sOff x8 21 fun x9 =>
  sLd h x9 fun x10 =>
  sIf x10 (sNil x0 fun x12 =>
  sOff x12 21 fun x13 =>
  sSt h x13 (.bool false) fun h => 
  ldisc_Disc_in_c x0 (.int .i64 1) h fun x15 h_1 => 
  sIf x15 (sBits .and .u8 x1 (.int .u8 127) fun x17 =>
  ldisc_Disc_byte_j1 R x0 x17 h_1) (ldisc_Disc_byte_j1 R x0 x1 h_1)) (sNil x0 fun x23 =>
  sOff x23 0 fun x24 =>
  sLdN h x24 17 fun x25 =>
  termios_Map_c x25 x1 h fun x27 h_4 => 
  sTup x27 0 fun x28 =>
  sTup x27 1 fun x29 =>
  sNot x29 fun x31 =>
  sOrH x31 h_4 (fun k =>
  ldisc_Disc_flow_c x0 x28 h_4 fun x35 h_16 => 
  k x35 h_16) fun x36 h_5 =>
  sIf x36 (R (.int .i64 0) h_5) (ldisc_Disc_signal_c x0 x28 h_5 fun x39 h_6 => 
  sNe x39 (.int .i64 0) fun x41 =>
  sIf x41 (ldisc_Disc_show_c x0 x28 h_6 fun x44 h_7 => 
  ldisc_Disc_local_c x0 (.int .i64 128) h_7 fun x46 h_8 => 
  sNot x46 fun x47 =>
  sIf x47 (ldisc_Disc_Flush_c x0 h_8 fun x49 h_10 => 
  sNil x0 fun x51 =>
  sOff x51 20 fun x52 =>
  sSt h_10 x52 (.bool false) fun h_11 => 
  ldisc_Disc_byte_j2 R x39 h_11) (ldisc_Disc_byte_j2 R x39 h_8)) (ldisc_Disc_local_c x0 (.int .i64 1) h_6 fun x55 h_12 => 
  sIf x55 (ldisc_Disc_edit_c x0 x28 h_12 fun x58 h_14 => 
  ldisc_Disc_byte_j3 R h_14) (ldisc_Disc_put_c x0 x28 h_12 fun x61 h_15 => 
  ldisc_Disc_byte_j3 R h_15))))
set_option maxRecDepth 100000 in
theorem ldisc_Disc_byte_runs {x0 x1 : Value} {h : Heap} {R : Value → Heap → Prop} (H : ldisc_Disc_byte_S x0 x1 h R) : ldisc_Disc_byte_c x0 x1 h R := by
  unfold ldisc_Disc_byte_S at H
  refine runs_of (b := ⟨([x0, x1, undef, undef, undef, undef, undef, undef, undef, undef, undef, undef, undef, undef, undef, undef, undef, undef, undef, undef, undef, undef, undef, undef, undef, undef, undef, undef, undef, undef, undef, undef, undef, undef, undef, undef, undef, undef, undef, undef, undef, undef, undef, undef, undef, undef, undef, undef, undef, undef] ++ [undef, undef, undef, undef, undef, undef, undef, undef, undef, undef, undef, undef]).toArray, []⟩) Try.call43 Try.func43 rfl (by kernel_rfl) (fun w0 HA => ?_)
  refine wp_seq ?_
  refine lwp_list ?_
  refine ls_assign (x := (.int .i64 0)) (by kernel_rfl) (by kernel_rfl) ?_
  refine ls_nil ?_
  refine then_normal ?_
  refine fr_eq (b := ⟨([x0, x1, undef, undef, (.int .i64 0), undef, undef, undef, undef, undef, undef, undef, undef, undef, undef, undef, undef, undef, undef, undef, undef, undef, undef, undef, undef, undef, undef, undef, undef, undef, undef, undef, undef, undef, undef, undef, undef, undef, undef, undef, undef, undef, undef, undef, undef, undef, undef, undef, undef, undef] ++ [undef, undef, undef, undef, undef, undef, undef, undef, undef, undef, undef, undef]).toArray, []⟩) (by kernel_rfl) ?_
  refine wp_seq ?_
  refine wp_seq ?_
  refine lwp_list ?_
  refine ls_move (x := x0) (by kernel_rfl) (by kernel_rfl) ?_
  refine ls_p (d := some 8) (by kernel_rfl) (by kernel_rfl) (p_nil (by kernel_rfl) H) (fun x8 H => ?_)
  refine ls_p (d := some 9) (by kernel_rfl) (by kernel_rfl) (p_off Try.underlying72 rfl (fun w => ⟨_, Try.sizeOf4 w⟩) rfl (by kernel_rfl) H) (fun x9 H => ?_)
  refine ls_y (d := some 10) (by kernel_rfl) (by kernel_rfl) HA (y_ld Try.isAgg4 (by kernel_rfl) H) (fun x10 H => ?_)
  refine ls_nil ?_
  refine then_normal ?_
  refine fr_eq (b := ⟨([x0, x1, undef, undef, (.int .i64 0), undef, undef, x0, x8, x9, x10, undef, undef, undef, undef, undef, undef, undef, undef, undef, undef, undef, undef, undef, undef, undef, undef, undef, undef, undef, undef, undef, undef, undef, undef, undef, undef, undef, undef, undef, undef, undef, undef, undef, undef, undef, undef, undef, undef, undef] ++ [undef, undef, undef, undef, undef, undef, undef, undef, undef, undef, undef, undef]).toArray, []⟩) (by kernel_rfl) ?_
  refine wp_if rfl H (fun H => ?_) (fun H => ?_)
  · refine wp_seq ?_
    refine lwp_list ?_
    refine ls_move (x := x0) (by kernel_rfl) (by kernel_rfl) ?_
    refine ls_p (d := some 12) (by kernel_rfl) (by kernel_rfl) (p_nil (by kernel_rfl) H) (fun x12 H => ?_)
    refine ls_p (d := some 13) (by kernel_rfl) (by kernel_rfl) (p_off Try.underlying72 rfl (fun w => ⟨_, Try.sizeOf4 w⟩) rfl (by kernel_rfl) H) (fun x13 H => ?_)
    refine ls_d (d := none) (by kernel_rfl) (by kernel_rfl) HA (d_st Try.sizeOf4 (by kernel_rfl) (by kernel_rfl) H) (fun _ h w H HA => ?_)
    refine ls_nil ?_
    refine then_normal ?_
    refine fr_eq (b := ⟨([x0, x1, undef, undef, (.int .i64 0), undef, undef, x0, x8, x9, x10, x0, x12, x13, undef, undef, undef, undef, undef, undef, undef, undef, undef, undef, undef, undef, undef, undef, undef, undef, undef, undef, undef, undef, undef, undef, undef, undef, undef, undef, undef, undef, undef, undef, undef, undef, undef, undef, undef, undef] ++ [undef, undef, undef, undef, undef, undef, undef, undef, undef, undef, undef, undef]).toArray, []⟩) (by kernel_rfl) ?_
    refine wp_seq ?_
    refine wp_seq ?_
    refine lwp_list ?_
    refine ls_move (x := x0) (by kernel_rfl) (by kernel_rfl) ?_
    refine ls_d (d := some 15) (by kernel_rfl) (by kernel_rfl) HA (d_call (by kernel_rfl) (by kernel_rfl) H) (fun x15 h_1 w_1 H HA_1 => ?_)
    refine ls_nil ?_
    refine then_normal ?_
    refine fr_eq (b := ⟨([x0, x1, undef, undef, (.int .i64 0), undef, undef, x0, x8, x9, x10, x0, x12, x13, x0, x15, undef, undef, undef, undef, undef, undef, undef, undef, undef, undef, undef, undef, undef, undef, undef, undef, undef, undef, undef, undef, undef, undef, undef, undef, undef, undef, undef, undef, undef, undef, undef, undef, undef, undef] ++ [undef, undef, undef, undef, undef, undef, undef, undef, undef, undef, undef, undef]).toArray, []⟩) (by kernel_rfl) ?_
    refine wp_join (fun a w => ∃ (D : Nat → Value) (x1_1 : Value) (h_2 : Heap), a = ⟨([x0, x1_1, undef, undef, (.int .i64 0), undef, undef, x0, x8, x9, x10, x0, x12, x13, x0, x15, (D 0), (D 1), undef, undef, undef, undef, undef, undef, undef, undef, undef, undef, undef, undef, undef, undef, undef, undef, undef, undef, undef, undef, undef, undef, undef, undef, undef, undef, undef, undef, undef, undef, undef, undef] ++ [undef, undef, undef, undef, undef, undef, undef, undef, undef, undef, undef, undef]).toArray, []⟩ ∧ At w0 w h_2 ∧ ldisc_Disc_byte_j1 R x0 x1_1 h_2) ?_ ?_
    · refine wp_if rfl H (fun H => ?_) (fun H => ?_)
      · refine lwp_list ?_
        refine ls_move (x := x1) (by kernel_rfl) (by kernel_rfl) ?_
        refine ls_p (d := some 17) (by kernel_rfl) (by kernel_rfl) (p_bits (by decide) (by kernel_rfl) (by kernel_rfl) H) (fun x17 H => ?_)
        refine ls_assign (x := x17) (by kernel_rfl) (by kernel_rfl) ?_
        refine ls_nil ?_
        exact ⟨(fun i => ([x1, x17]).getD i undef), x17, h_1, by kernel_rfl, HA_1, H⟩
      · refine wp_skip ?_
        exact ⟨(fun i => ([undef, undef]).getD i undef), x1, h_1, by kernel_rfl, HA_1, H⟩
    · rintro _ w_2 ⟨D, x1_1, h_2, rfl, HA_2, H⟩
      unfold ldisc_Disc_byte_j1 at H
      refine then_normal ?_
      refine fr_eq (b := ⟨([x0, x1_1, undef, undef, (.int .i64 0), undef, undef, x0, x8, x9, x10, x0, x12, x13, x0, x15, (D 0), (D 1), undef, undef, undef, undef, undef, undef, undef, undef, undef, undef, undef, undef, undef, undef, undef, undef, undef, undef, undef, undef, undef, undef, undef, undef, undef, undef, undef, undef, undef, undef, undef, undef] ++ [undef, undef, undef, undef, undef, undef, undef, undef, undef, undef, undef, undef]).toArray, []⟩) (by kernel_rfl) ?_
      refine wp_seq ?_
      refine lwp_list ?_
      refine ls_move (x := x0) (by kernel_rfl) (by kernel_rfl) ?_
      refine ls_move (x := x1_1) (by kernel_rfl) (by kernel_rfl) ?_
      refine ls_d (d := some 20) (by kernel_rfl) (by kernel_rfl) HA_2 (d_call (by kernel_rfl) (by kernel_rfl) H) (fun x20 h_3 w_3 H HA_3 => ?_)
      refine ls_nil ?_
      refine then_normal ?_
      refine fr_eq (b := ⟨([x0, x1_1, undef, undef, (.int .i64 0), undef, undef, x0, x8, x9, x10, x0, x12, x13, x0, x15, (D 0), (D 1), x0, x1_1, x20, undef, undef, undef, undef, undef, undef, undef, undef, undef, undef, undef, undef, undef, undef, undef, undef, undef, undef, undef, undef, undef, undef, undef, undef, undef, undef, undef, undef, undef] ++ [undef, undef, undef, undef, undef, undef, undef, undef, undef, undef, undef, undef]).toArray, []⟩) (by kernel_rfl) ?_
      refine wp_seq ?_
      refine lwp_list ?_
      refine ls_assign (x := (.int .i64 0)) (by kernel_rfl) (by kernel_rfl) ?_
      refine ls_nil ?_
      refine then_normal ?_
      refine fr_eq (b := ⟨([x0, x1_1, undef, undef, (.int .i64 0), undef, undef, x0, x8, x9, x10, x0, x12, x13, x0, x15, (D 0), (D 1), x0, x1_1, x20, undef, undef, undef, undef, undef, undef, undef, undef, undef, undef, undef, undef, undef, undef, undef, undef, undef, undef, undef, undef, undef, undef, undef, undef, undef, undef, undef, undef, undef] ++ [undef, undef, undef, undef, undef, undef, undef, undef, undef, undef, undef, undef]).toArray, []⟩) (by kernel_rfl) ?_
      refine wp_ret ?_
      refine then_ret ?_
      exact end1 (Try.results43) (by kernel_rfl) (by kernel_rfl) HA_3 H _ (.inr rfl)
  · refine wp_skip ?_
    refine then_normal ?_
    refine fr_eq (b := ⟨([x0, x1, undef, undef, (.int .i64 0), undef, undef, x0, x8, x9, x10, undef, undef, undef, undef, undef, undef, undef, undef, undef, undef, undef, undef, undef, undef, undef, undef, undef, undef, undef, undef, undef, undef, undef, undef, undef, undef, undef, undef, undef, undef, undef, undef, undef, undef, undef, undef, undef, undef, undef] ++ [undef, undef, undef, undef, undef, undef, undef, undef, undef, undef, undef, undef]).toArray, []⟩) (by kernel_rfl) ?_
    refine wp_seq ?_
    refine lwp_list ?_
    refine ls_move (x := x0) (by kernel_rfl) (by kernel_rfl) ?_
    refine ls_p (d := some 23) (by kernel_rfl) (by kernel_rfl) (p_nil (by kernel_rfl) H) (fun x23 H => ?_)
    refine ls_p (d := some 24) (by kernel_rfl) (by kernel_rfl) (p_off Try.underlying72 rfl (fun w => ⟨_, Try.sizeOf28 w⟩) rfl (by kernel_rfl) H) (fun x24 H => ?_)
    refine ls_y (d := some 25) (by kernel_rfl) (by kernel_rfl) HA (y_ldn Try.isAgg28 Try.sizeOf28 (by kernel_rfl) H) (fun x25 H => ?_)
    refine ls_move (x := x1) (by kernel_rfl) (by kernel_rfl) ?_
    refine ls_d (d := some 27) (by kernel_rfl) (by kernel_rfl) HA (d_call (by kernel_rfl) (by kernel_rfl) H) (fun x27 h_4 w_4 H HA_4 => ?_)
    refine ls_fr (b := ⟨([x0, x1, undef, undef, (.int .i64 0), undef, undef, x0, x8, x9, x10, undef, undef, undef, undef, undef, undef, undef, undef, undef, undef, undef, x0, x23, x24, x25, x1, x27, undef, undef, undef, undef, undef, undef, undef, undef, undef, undef, undef, undef, undef, undef, undef, undef, undef, undef, undef, undef, undef, undef] ++ [undef, undef, undef, undef, undef, undef, undef, undef, undef, undef, undef, undef]).toArray, []⟩) (by kernel_rfl) ?_
    refine ls_move (x := x27) (by kernel_rfl) (by kernel_rfl) ?_
    refine ls_p (d := some 28) (by kernel_rfl) (by kernel_rfl) (p_tup (by kernel_rfl) H) (fun x28 H => ?_)
    refine ls_p (d := some 29) (by kernel_rfl) (by kernel_rfl) (p_tup (by kernel_rfl) H) (fun x29 H => ?_)
    refine ls_assign (x := x28) (by kernel_rfl) (by kernel_rfl) ?_
    refine ls_assign (x := x29) (by kernel_rfl) (by kernel_rfl) ?_
    refine ls_nil ?_
    refine then_normal ?_
    refine fr_eq (b := ⟨([x0, x28, undef, undef, (.int .i64 0), x29, undef, x0, x8, x9, x10, undef, undef, undef, undef, undef, undef, undef, undef, undef, undef, x27, x0, x23, x24, x25, x1, x27, x28, x29, undef, undef, undef, undef, undef, undef, undef, undef, undef, undef, undef, undef, undef, undef, undef, undef, undef, undef, undef, undef] ++ [undef, undef, undef, undef, undef, undef, undef, undef, undef, undef, undef, undef]).toArray, []⟩) (by kernel_rfl) ?_
    refine wp_seq ?_
    refine wp_seq ?_
    refine lwp_list ?_
    refine ls_move (x := x29) (by kernel_rfl) (by kernel_rfl) ?_
    refine ls_p (d := some 31) (by kernel_rfl) (by kernel_rfl) (p_not (by kernel_rfl) H) (fun x31 H => ?_)
    refine ls_move (x := x31) (by kernel_rfl) (by kernel_rfl) ?_
    refine ls_orh [(), (), (), ()] (fun K a w => ∃ (D_1 : Nat → Value) (x36 : Value) (h_5 : Heap), a = ⟨([x0, x28, undef, undef, (.int .i64 0), x29, undef, x0, x8, x9, x10, undef, undef, undef, undef, undef, undef, undef, undef, undef, undef, x27, x0, x23, x24, x25, x1, x27, x28, x29, x29, x31, x31, (D_1 0), (D_1 1), (D_1 2), x36, undef, undef, undef, undef, undef, undef, undef, undef, undef, undef, undef, undef, undef] ++ [undef, undef, undef, undef, undef, undef, undef, undef, undef, undef, undef, undef]).toArray, []⟩ ∧ At w0 w h_5 ∧ K x36 h_5) H (fun hb H => ?_) (fun hb H => ?_) ?_
    · refine ls_move (x := x0) (by rw [hb]; kernel_rfl) (by kernel_rfl) ?_
      refine ls_move (x := x28) (by rw [hb]; kernel_rfl) (by kernel_rfl) ?_
      refine ls_d (d := some 35) (by kernel_rfl) (by rw [hb]; kernel_rfl) HA_4 (d_call (by kernel_rfl) (by kernel_rfl) H) (fun x35 h_16 w_16 H HA_16 => ?_)
      refine ls_fr (b := ⟨([x0, x28, undef, undef, (.int .i64 0), x29, undef, x0, x8, x9, x10, undef, undef, undef, undef, undef, undef, undef, undef, undef, undef, x27, x0, x23, x24, x25, x1, x27, x28, x29, x29, x31, x31, x0, x28, x35, undef, undef, undef, undef, undef, undef, undef, undef, undef, undef, undef, undef, undef, undef] ++ [undef, undef, undef, undef, undef, undef, undef, undef, undef, undef, undef, undef]).toArray, []⟩) (by kernel_rfl) ?_
      refine ls_pick_f (y := x35) (by kernel_rfl) (by rw [hb]; kernel_rfl) (by kernel_rfl) ?_
      refine ls_nil ?_
      refine then_normal ?_
      exact ⟨(fun i => ([x0, x28, x35]).getD i undef), x35, h_16, by kernel_rfl, HA_16, H⟩
    · refine ls_skip (d := some 33) (by kernel_rfl) (by rw [hb]; kernel_rfl) ?_
      refine ls_skip (d := some 34) (by kernel_rfl) (by rw [hb]; kernel_rfl) ?_
      refine ls_skip (d := some 35) (by kernel_rfl) (by rw [hb]; kernel_rfl) ?_
      refine ls_fr (b := ⟨([x0, x28, undef, undef, (.int .i64 0), x29, undef, x0, x8, x9, x10, undef, undef, undef, undef, undef, undef, undef, undef, undef, undef, x27, x0, x23, x24, x25, x1, x27, x28, x29, x29, x31, x31, undef, undef, undef, undef, undef, undef, undef, undef, undef, undef, undef, undef, undef, undef, undef, undef, undef] ++ [undef, undef, undef, undef, undef, undef, undef, undef, undef, undef, undef, undef]).toArray, []⟩) (by kernel_rfl) ?_
      refine ls_pick_t (x := (.bool true)) (by kernel_rfl) (by rw [hb]; kernel_rfl) (by kernel_rfl) ?_
      refine ls_nil ?_
      refine then_normal ?_
      exact ⟨(fun i => ([undef, undef, undef]).getD i undef), (.bool true), h_4, by kernel_rfl, HA_4, H⟩
    · rintro _ w_5 ⟨D_1, x36, h_5, rfl, HA_5, H⟩
      refine ls_nil ?_
      refine then_normal ?_
      refine fr_eq (b := ⟨([x0, x28, undef, undef, (.int .i64 0), x29, undef, x0, x8, x9, x10, undef, undef, undef, undef, undef, undef, undef, undef, undef, undef, x27, x0, x23, x24, x25, x1, x27, x28, x29, x29, x31, x31, (D_1 0), (D_1 1), (D_1 2), x36, undef, undef, undef, undef, undef, undef, undef, undef, undef, undef, undef, undef, undef] ++ [undef, undef, undef, undef, undef, undef, undef, undef, undef, undef, undef, undef]).toArray, []⟩) (by kernel_rfl) ?_
      refine wp_if rfl H (fun H => ?_) (fun H => ?_)
      · refine wp_seq ?_
        refine lwp_list ?_
        refine ls_assign (x := (.int .i64 0)) (by kernel_rfl) (by kernel_rfl) ?_
        refine ls_nil ?_
        refine then_normal ?_
        refine fr_eq (b := ⟨([x0, x28, undef, undef, (.int .i64 0), x29, undef, x0, x8, x9, x10, undef, undef, undef, undef, undef, undef, undef, undef, undef, undef, x27, x0, x23, x24, x25, x1, x27, x28, x29, x29, x31, x31, (D_1 0), (D_1 1), (D_1 2), x36, undef, undef, undef, undef, undef, undef, undef, undef, undef, undef, undef, undef, undef] ++ [undef, undef, undef, undef, undef, undef, undef, undef, undef, undef, undef, undef]).toArray, []⟩) (by kernel_rfl) ?_
        refine wp_ret ?_
        refine then_ret ?_
        exact end1 (Try.results43) (by kernel_rfl) (by kernel_rfl) HA_5 H _ (.inr rfl)
      · refine wp_skip ?_
        refine then_normal ?_
        refine fr_eq (b := ⟨([x0, x28, undef, undef, (.int .i64 0), x29, undef, x0, x8, x9, x10, undef, undef, undef, undef, undef, undef, undef, undef, undef, undef, x27, x0, x23, x24, x25, x1, x27, x28, x29, x29, x31, x31, (D_1 0), (D_1 1), (D_1 2), x36, undef, undef, undef, undef, undef, undef, undef, undef, undef, undef, undef, undef, undef] ++ [undef, undef, undef, undef, undef, undef, undef, undef, undef, undef, undef, undef]).toArray, []⟩) (by kernel_rfl) ?_
        refine wp_seq ?_
        refine wp_seq ?_
        refine lwp_list ?_
        refine ls_move (x := x0) (by kernel_rfl) (by kernel_rfl) ?_
        refine ls_move (x := x28) (by kernel_rfl) (by kernel_rfl) ?_
        refine ls_d (d := some 39) (by kernel_rfl) (by kernel_rfl) HA_5 (d_call (by kernel_rfl) (by kernel_rfl) H) (fun x39 h_6 w_6 H HA_6 => ?_)
        refine ls_assign (x := x39) (by kernel_rfl) (by kernel_rfl) ?_
        refine ls_nil ?_
        refine then_normal ?_
        refine fr_eq (b := ⟨([x0, x28, undef, undef, (.int .i64 0), x29, x39, x0, x8, x9, x10, undef, undef, undef, undef, undef, undef, undef, undef, undef, undef, x27, x0, x23, x24, x25, x1, x27, x28, x29, x29, x31, x31, (D_1 0), (D_1 1), (D_1 2), x36, x0, x28, x39, undef, undef, undef, undef, undef, undef, undef, undef, undef, undef] ++ [undef, undef, undef, undef, undef, undef, undef, undef, undef, undef, undef, undef]).toArray, []⟩) (by kernel_rfl) ?_
        refine wp_seq ?_
        refine lwp_list ?_
        refine ls_move (x := x39) (by kernel_rfl) (by kernel_rfl) ?_
        refine ls_p (d := some 41) (by kernel_rfl) (by kernel_rfl) (p_sNe (by kernel_rfl) (by kernel_rfl) H) (fun x41 H => ?_)
        refine ls_nil ?_
        refine then_normal ?_
        refine fr_eq (b := ⟨([x0, x28, undef, undef, (.int .i64 0), x29, x39, x0, x8, x9, x10, undef, undef, undef, undef, undef, undef, undef, undef, undef, undef, x27, x0, x23, x24, x25, x1, x27, x28, x29, x29, x31, x31, (D_1 0), (D_1 1), (D_1 2), x36, x0, x28, x39, x39, x41, undef, undef, undef, undef, undef, undef, undef, undef] ++ [undef, undef, undef, undef, undef, undef, undef, undef, undef, undef, undef, undef]).toArray, []⟩) (by kernel_rfl) ?_
        refine wp_if rfl H (fun H => ?_) (fun H => ?_)
        · refine wp_seq ?_
          refine lwp_list ?_
          refine ls_move (x := x0) (by kernel_rfl) (by kernel_rfl) ?_
          refine ls_move (x := x28) (by kernel_rfl) (by kernel_rfl) ?_
          refine ls_d (d := some 44) (by kernel_rfl) (by kernel_rfl) HA_6 (d_call (by kernel_rfl) (by kernel_rfl) H) (fun x44 h_7 w_7 H HA_7 => ?_)
          refine ls_nil ?_
          refine then_normal ?_
          refine fr_eq (b := ⟨([x0, x28, undef, undef, (.int .i64 0), x29, x39, x0, x8, x9, x10, undef, undef, undef, undef, undef, undef, undef, undef, undef, undef, x27, x0, x23, x24, x25, x1, x27, x28, x29, x29, x31, x31, (D_1 0), (D_1 1), (D_1 2), x36, x0, x28, x39, x39, x41, x0, x28, x44, undef, undef, undef, undef, undef] ++ [undef, undef, undef, undef, undef, undef, undef, undef, undef, undef, undef, undef]).toArray, []⟩) (by kernel_rfl) ?_
          refine wp_seq ?_
          refine wp_seq ?_
          refine lwp_list ?_
          refine ls_move (x := x0) (by kernel_rfl) (by kernel_rfl) ?_
          refine ls_d (d := some 46) (by kernel_rfl) (by kernel_rfl) HA_7 (d_call (by kernel_rfl) (by kernel_rfl) H) (fun x46 h_8 w_8 H HA_8 => ?_)
          refine ls_p (d := some 47) (by kernel_rfl) (by kernel_rfl) (p_not (by kernel_rfl) H) (fun x47 H => ?_)
          refine ls_nil ?_
          refine then_normal ?_
          refine fr_eq (b := ⟨([x0, x28, undef, undef, (.int .i64 0), x29, x39, x0, x8, x9, x10, undef, undef, undef, undef, undef, undef, undef, undef, undef, undef, x27, x0, x23, x24, x25, x1, x27, x28, x29, x29, x31, x31, (D_1 0), (D_1 1), (D_1 2), x36, x0, x28, x39, x39, x41, x0, x28, x44, x0, x46, x47, undef, undef] ++ [undef, undef, undef, undef, undef, undef, undef, undef, undef, undef, undef, undef]).toArray, []⟩) (by kernel_rfl) ?_
          refine wp_join (fun a w => ∃ (D_2 : Nat → Value) (h_9 : Heap), a = ⟨([x0, x28, undef, undef, (.int .i64 0), x29, x39, x0, x8, x9, x10, undef, undef, undef, undef, undef, undef, undef, undef, undef, undef, x27, x0, x23, x24, x25, x1, x27, x28, x29, x29, x31, x31, (D_1 0), (D_1 1), (D_1 2), x36, x0, x28, x39, x39, x41, x0, x28, x44, x0, x46, x47, (D_2 0), (D_2 1)] ++ [(D_2 2), (D_2 3), (D_2 4), undef, undef, undef, undef, undef, undef, undef, undef, undef]).toArray, []⟩ ∧ At w0 w h_9 ∧ ldisc_Disc_byte_j2 R x39 h_9) ?_ ?_
          · refine wp_if rfl H (fun H => ?_) (fun H => ?_)
            · refine wp_seq ?_
              refine lwp_list ?_
              refine ls_move (x := x0) (by kernel_rfl) (by kernel_rfl) ?_
              refine ls_d (d := some 49) (by kernel_rfl) (by kernel_rfl) HA_8 (d_call (by kernel_rfl) (by kernel_rfl) H) (fun x49 h_10 w_10 H HA_10 => ?_)
              refine ls_nil ?_
              refine then_normal ?_
              refine fr_eq (b := ⟨([x0, x28, undef, undef, (.int .i64 0), x29, x39, x0, x8, x9, x10, undef, undef, undef, undef, undef, undef, undef, undef, undef, undef, x27, x0, x23, x24, x25, x1, x27, x28, x29, x29, x31, x31, (D_1 0), (D_1 1), (D_1 2), x36, x0, x28, x39, x39, x41, x0, x28, x44, x0, x46, x47, x0, x49] ++ [undef, undef, undef, undef, undef, undef, undef, undef, undef, undef, undef, undef]).toArray, []⟩) (by kernel_rfl) ?_
              refine lwp_list ?_
              refine ls_move (x := x0) (by kernel_rfl) (by kernel_rfl) ?_
              refine ls_p (d := some 51) (by kernel_rfl) (by kernel_rfl) (p_nil (by kernel_rfl) H) (fun x51 H => ?_)
              refine ls_p (d := some 52) (by kernel_rfl) (by kernel_rfl) (p_off Try.underlying72 rfl (fun w => ⟨_, Try.sizeOf4 w⟩) rfl (by kernel_rfl) H) (fun x52 H => ?_)
              refine ls_d (d := none) (by kernel_rfl) (by kernel_rfl) HA_10 (d_st Try.sizeOf4 (by kernel_rfl) (by kernel_rfl) H) (fun _ h_11 w_11 H HA_11 => ?_)
              refine ls_nil ?_
              exact ⟨(fun i => ([x0, x49, x0, x51, x52]).getD i undef), h_11, by kernel_rfl, HA_11, H⟩
            · refine wp_skip ?_
              exact ⟨(fun i => ([undef, undef, undef, undef, undef]).getD i undef), h_8, by kernel_rfl, HA_8, H⟩
          · rintro _ w_9 ⟨D_2, h_9, rfl, HA_9, H⟩
            unfold ldisc_Disc_byte_j2 at H
            refine then_normal ?_
            refine fr_eq (b := ⟨([x0, x28, undef, undef, (.int .i64 0), x29, x39, x0, x8, x9, x10, undef, undef, undef, undef, undef, undef, undef, undef, undef, undef, x27, x0, x23, x24, x25, x1, x27, x28, x29, x29, x31, x31, (D_1 0), (D_1 1), (D_1 2), x36, x0, x28, x39, x39, x41, x0, x28, x44, x0, x46, x47, (D_2 0), (D_2 1)] ++ [(D_2 2), (D_2 3), (D_2 4), undef, undef, undef, undef, undef, undef, undef, undef, undef]).toArray, []⟩) (by kernel_rfl) ?_
            refine wp_seq ?_
            refine lwp_list ?_
            refine ls_move (x := x39) (by kernel_rfl) (by kernel_rfl) ?_
            refine ls_assign (x := x39) (by kernel_rfl) (by kernel_rfl) ?_
            refine ls_nil ?_
            refine then_normal ?_
            refine fr_eq (b := ⟨([x0, x28, undef, undef, x39, x29, x39, x0, x8, x9, x10, undef, undef, undef, undef, undef, undef, undef, undef, undef, undef, x27, x0, x23, x24, x25, x1, x27, x28, x29, x29, x31, x31, (D_1 0), (D_1 1), (D_1 2), x36, x0, x28, x39, x39, x41, x0, x28, x44, x0, x46, x47, (D_2 0), (D_2 1)] ++ [(D_2 2), (D_2 3), (D_2 4), x39, undef, undef, undef, undef, undef, undef, undef, undef]).toArray, []⟩) (by kernel_rfl) ?_
            refine wp_ret ?_
            refine then_ret ?_
            exact end1 (Try.results43) (by kernel_rfl) (by kernel_rfl) HA_9 H _ (.inr rfl)
        · refine wp_skip ?_
          refine then_normal ?_
          refine fr_eq (b := ⟨([x0, x28, undef, undef, (.int .i64 0), x29, x39, x0, x8, x9, x10, undef, undef, undef, undef, undef, undef, undef, undef, undef, undef, x27, x0, x23, x24, x25, x1, x27, x28, x29, x29, x31, x31, (D_1 0), (D_1 1), (D_1 2), x36, x0, x28, x39, x39, x41, undef, undef, undef, undef, undef, undef, undef, undef] ++ [undef, undef, undef, undef, undef, undef, undef, undef, undef, undef, undef, undef]).toArray, []⟩) (by kernel_rfl) ?_
          refine wp_seq ?_
          refine wp_seq ?_
          refine lwp_list ?_
          refine ls_move (x := x0) (by kernel_rfl) (by kernel_rfl) ?_
          refine ls_d (d := some 55) (by kernel_rfl) (by kernel_rfl) HA_6 (d_call (by kernel_rfl) (by kernel_rfl) H) (fun x55 h_12 w_12 H HA_12 => ?_)
          refine ls_nil ?_
          refine then_normal ?_
          refine fr_eq (b := ⟨([x0, x28, undef, undef, (.int .i64 0), x29, x39, x0, x8, x9, x10, undef, undef, undef, undef, undef, undef, undef, undef, undef, undef, x27, x0, x23, x24, x25, x1, x27, x28, x29, x29, x31, x31, (D_1 0), (D_1 1), (D_1 2), x36, x0, x28, x39, x39, x41, undef, undef, undef, undef, undef, undef, undef, undef] ++ [undef, undef, undef, undef, x0, x55, undef, undef, undef, undef, undef, undef]).toArray, []⟩) (by kernel_rfl) ?_
          refine wp_join (fun a w => ∃ (D_3 : Nat → Value) (h_13 : Heap), a = ⟨([x0, x28, undef, undef, (.int .i64 0), x29, x39, x0, x8, x9, x10, undef, undef, undef, undef, undef, undef, undef, undef, undef, undef, x27, x0, x23, x24, x25, x1, x27, x28, x29, x29, x31, x31, (D_1 0), (D_1 1), (D_1 2), x36, x0, x28, x39, x39, x41, undef, undef, undef, undef, undef, undef, undef, undef] ++ [undef, undef, undef, undef, x0, x55, (D_3 0), (D_3 1), (D_3 2), (D_3 3), (D_3 4), (D_3 5)]).toArray, []⟩ ∧ At w0 w h_13 ∧ ldisc_Disc_byte_j3 R h_13) ?_ ?_
          · refine wp_if rfl H (fun H => ?_) (fun H => ?_)
            · refine lwp_list ?_
              refine ls_move (x := x0) (by kernel_rfl) (by kernel_rfl) ?_
              refine ls_move (x := x28) (by kernel_rfl) (by kernel_rfl) ?_
              refine ls_d (d := some 58) (by kernel_rfl) (by kernel_rfl) HA_12 (d_call (by kernel_rfl) (by kernel_rfl) H) (fun x58 h_14 w_14 H HA_14 => ?_)
              refine ls_nil ?_
              exact ⟨(fun i => ([x0, x28, x58, undef, undef, undef]).getD i undef), h_14, by kernel_rfl, HA_14, H⟩
            · refine lwp_list ?_
              refine ls_move (x := x0) (by kernel_rfl) (by kernel_rfl) ?_
              refine ls_move (x := x28) (by kernel_rfl) (by kernel_rfl) ?_
              refine ls_d (d := some 61) (by kernel_rfl) (by kernel_rfl) HA_12 (d_call (by kernel_rfl) (by kernel_rfl) H) (fun x61 h_15 w_15 H HA_15 => ?_)
              refine ls_nil ?_
              exact ⟨(fun i => ([undef, undef, undef, x0, x28, x61]).getD i undef), h_15, by kernel_rfl, HA_15, H⟩
          · rintro _ w_13 ⟨D_3, h_13, rfl, HA_13, H⟩
            unfold ldisc_Disc_byte_j3 at H
            refine then_normal ?_
            refine fr_eq (b := ⟨([x0, x28, undef, undef, (.int .i64 0), x29, x39, x0, x8, x9, x10, undef, undef, undef, undef, undef, undef, undef, undef, undef, undef, x27, x0, x23, x24, x25, x1, x27, x28, x29, x29, x31, x31, (D_1 0), (D_1 1), (D_1 2), x36, x0, x28, x39, x39, x41, undef, undef, undef, undef, undef, undef, undef, undef] ++ [undef, undef, undef, undef, x0, x55, (D_3 0), (D_3 1), (D_3 2), (D_3 3), (D_3 4), (D_3 5)]).toArray, []⟩) (by kernel_rfl) ?_
            refine wp_seq ?_
            refine lwp_list ?_
            refine ls_assign (x := (.int .i64 0)) (by kernel_rfl) (by kernel_rfl) ?_
            refine ls_nil ?_
            refine then_normal ?_
            refine fr_eq (b := ⟨([x0, x28, undef, undef, (.int .i64 0), x29, x39, x0, x8, x9, x10, undef, undef, undef, undef, undef, undef, undef, undef, undef, undef, x27, x0, x23, x24, x25, x1, x27, x28, x29, x29, x31, x31, (D_1 0), (D_1 1), (D_1 2), x36, x0, x28, x39, x39, x41, undef, undef, undef, undef, undef, undef, undef, undef] ++ [undef, undef, undef, undef, x0, x55, (D_3 0), (D_3 1), (D_3 2), (D_3 3), (D_3 4), (D_3 5)]).toArray, []⟩) (by kernel_rfl) ?_
            refine wp_ret ?_
            exact end1 (Try.results43) (by kernel_rfl) (by kernel_rfl) HA_13 H _ (.inr rfl)

end Go.Proofs.Ytlcklnbgknhhkaa
