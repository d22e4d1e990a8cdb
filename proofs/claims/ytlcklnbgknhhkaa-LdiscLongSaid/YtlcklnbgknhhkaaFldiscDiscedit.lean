/- The shallow reading of one function, and that the function does it. Written by a program. -/
import Derived.Test.YtlcklnbgknhhkaaFnC
set_option linter.unusedVariables false
namespace Go.Proofs.Ytlcklnbgknhhkaa
open Go Go.HW

def ldisc_Disc_edit_j1 (R : Value → Heap → Prop) (x0 x1 : Value) (h_6 : Heap) : Prop :=
  ldisc_Disc_local_c x0 (.int .i64 4) h_6 fun x45 h_7 => 
  sNot x45 fun x46 =>
  sIf x46 (ldisc_Disc_show_c x0 x1 h_7 fun x49 h_8 => 
  R unit h_8) (R unit h_7)
def ldisc_Disc_edit_j2 (R : Value → Heap → Prop) (x0 : Value) (h_12 : Heap) : Prop :=
  ldisc_Disc_local_c x0 (.int .i64 8) h_12 fun x61 h_13 => 
  sAndH x61 h_13 (fun k =>
  ldisc_Disc_local_c x0 (.int .i64 2) h_13 fun x64 h_18 => 
  k x64 h_18) fun x65 h_14 =>
  sIf x65 (sNil x0 fun x68 =>
  sOff x68 22 fun x69 =>
  sLd h_14 x69 fun x70 =>
  sSlit h_14 #[.int .u8 0] [(0, 1, (.int .u8 10))] 5 1 fun x71 h_15 => 
  sApp h_15 x70 x71 #[.int .u8 0] 5 1 fun x72 h_16 => 
  sNil x0 fun x73 =>
  sOff x73 22 fun x74 =>
  sSt h_16 x74 x72 fun h_17 => 
  R unit h_17) (R unit h_14)
def ldisc_Disc_edit_S (x0 x1 : Value) (h : Heap) (R : Value → Heap → Prop) : Prop :=
  ldisc_Disc_extended_c x0 x1 h fun x7 h => 
  sIf x7 (R unit h) (ldisc_Disc_is_c x0 (.int .i64 6) x1 h fun x10 h_1 => 
  ldisc_Disc_is_c x0 (.int .i64 5) x1 h_1 fun x17 h_2 => 
  sAnd x17 (fun k_2 =>
  sNil x0 fun x20 =>
  sOff x20 17 fun x21 =>
  sLd h_2 x21 fun x22 =>
  sLen x22 fun x23 =>
  sGt x23 (.int .i64 0) fun x24 =>
  k_2 x24) fun x25 =>
  sAndH x25 h_2 (fun k_1 =>
  ldisc_Disc_local_c x0 (.int .i64 4) h_2 fun x28 h_26 => 
  k_1 x28 h_26) fun x29 h_3 =>
  sIf x29 (ldisc_Disc_back_c x0 h_3 fun x31 h_4 => 
  R unit h_4) (ldisc_Disc_is_c x0 (.int .i64 5) x1 h_3 fun x35 h_5 => 
  sIf x35 (sNil x0 fun x37 =>
  sOff x37 17 fun x38 =>
  sLd h_5 x38 fun x39 =>
  sLen x39 fun x40 =>
  sGt x40 (.int .i64 0) fun x41 =>
  sIf x41 (ldisc_Disc_back_c x0 h_5 fun x43 h_9 => 
  ldisc_Disc_edit_j1 R x0 x1 h_9) (ldisc_Disc_edit_j1 R x0 x1 h_5)) (sIf x10 (ldisc_Disc_backWhile_c x0 (.func (.func 82) #[] #[]) h_5 fun x53 h_10 => 
  ldisc_Disc_local_c x0 (.int .i64 4) h_10 fun x55 h_11 => 
  sNot x55 fun x56 =>
  sIf x56 (ldisc_Disc_show_c x0 x1 h_11 fun x59 h_19 => 
  ldisc_Disc_edit_j2 R x0 h_19) (ldisc_Disc_edit_j2 R x0 h_11)) (ldisc_Disc_is_c x0 (.int .i64 3) x1 h_5 fun x78 h_20 => 
  sIf x78 (ldisc_Disc_ready_c x0 h_20 fun x80 h_21 => 
  R unit h_21) (ldisc_Disc_ends_c x0 x1 h_20 fun x84 h_22 => 
  sIf x84 (ldisc_Disc_put_c x0 x1 h_22 fun x87 h_23 => 
  sIf x87 (ldisc_Disc_ready_c x0 h_23 fun x89 h_24 => 
  R unit h_24) (R unit h_23)) (ldisc_Disc_put_c x0 x1 h_22 fun x13 h_25 => 
  R unit h_25))))))
set_option maxRecDepth 100000 in
theorem ldisc_Disc_edit_runs {x0 x1 : Value} {h : Heap} {R : Value → Heap → Prop} (H : ldisc_Disc_edit_S x0 x1 h R) : ldisc_Disc_edit_c x0 x1 h R := by
  unfold ldisc_Disc_edit_S at H
  refine runs_of (b := ⟨([x0, x1, undef, undef, undef, undef, undef, undef, undef, undef, undef, undef, undef, undef, undef, undef, undef, undef, undef, undef, undef, undef, undef, undef, undef, undef, undef, undef, undef, undef, undef, undef, undef, undef, undef, undef, undef, undef, undef, undef, undef, undef, undef, undef, undef, undef, undef, undef, undef, undef] ++ [undef, undef, undef, undef, undef, undef, undef, undef, undef, undef, undef, undef, undef, undef, undef, undef, undef, undef, undef, undef, undef, undef, undef, undef, undef, undef, undef, undef, undef, undef, undef, undef, undef, undef, undef, undef, undef, undef, undef, undef]).toArray, []⟩) Try.call67 Try.func67 rfl (by kernel_rfl) (fun w0 HA => ?_)
  refine wp_seq ?_
  refine wp_seq ?_
  refine lwp_list ?_
  refine ls_move (x := x0) (by kernel_rfl) (by kernel_rfl) ?_
  refine ls_move (x := x1) (by kernel_rfl) (by kernel_rfl) ?_
  refine ls_d (d := some 7) (by kernel_rfl) (by kernel_rfl) HA (d_call (by kernel_rfl) (by kernel_rfl) H) (fun x7 h w H HA => ?_)
  refine ls_nil ?_
  refine then_normal ?_
  refine fr_eq (b := ⟨([x0, x1, undef, undef, undef, x0, x1, x7, undef, undef, undef, undef, undef, undef, undef, undef, undef, undef, undef, undef, undef, undef, undef, undef, undef, undef, undef, undef, undef, undef, undef, undef, undef, undef, undef, undef, undef, undef, undef, undef, undef, undef, undef, undef, undef, undef, undef, undef, undef, undef] ++ [undef, undef, undef, undef, undef, undef, undef, undef, undef, undef, undef, undef, undef, undef, undef, undef, undef, undef, undef, undef, undef, undef, undef, undef, undef, undef, undef, undef, undef, undef, undef, undef, undef, undef, undef, undef, undef, undef, undef, undef]).toArray, []⟩) (by kernel_rfl) ?_
  refine wp_if rfl H (fun H => ?_) (fun H => ?_)
  · refine wp_ret ?_
    refine then_ret ?_
    exact end0 (Try.results67) (by kernel_rfl) HA H _ (.inr rfl)
  · refine wp_skip ?_
    refine then_normal ?_
    refine fr_eq (b := ⟨([x0, x1, undef, undef, undef, x0, x1, x7, undef, undef, undef, undef, undef, undef, undef, undef, undef, undef, undef, undef, undef, undef, undef, undef, undef, undef, undef, undef, undef, undef, undef, undef, undef, undef, undef, undef, undef, undef, undef, undef, undef, undef, undef, undef, undef, undef, undef, undef, undef, undef] ++ [undef, undef, undef, undef, undef, undef, undef, undef, undef, undef, undef, undef, undef, undef, undef, undef, undef, undef, undef, undef, undef, undef, undef, undef, undef, undef, undef, undef, undef, undef, undef, undef, undef, undef, undef, undef, undef, undef, undef, undef]).toArray, []⟩) (by kernel_rfl) ?_
    refine wp_seq ?_
    refine lwp_list ?_
    refine ls_move (x := x0) (by kernel_rfl) (by kernel_rfl) ?_
    refine ls_move (x := x1) (by kernel_rfl) (by kernel_rfl) ?_
    refine ls_d (d := some 10) (by kernel_rfl) (by kernel_rfl) HA (d_call (by kernel_rfl) (by kernel_rfl) H) (fun x10 h_1 w_1 H HA_1 => ?_)
    refine ls_assign (x := x10) (by kernel_rfl) (by kernel_rfl) ?_
    refine ls_nil ?_
    refine then_normal ?_
    refine fr_eq (b := ⟨([x0, x1, undef, undef, x10, x0, x1, x7, x0, x1, x10, undef, undef, undef, undef, undef, undef, undef, undef, undef, undef, undef, undef, undef, undef, undef, undef, undef, undef, undef, undef, undef, undef, undef, undef, undef, undef, undef, undef, undef, undef, undef, undef, undef, undef, undef, undef, undef, undef, undef] ++ [undef, undef, undef, undef, undef, undef, undef, undef, undef, undef, undef, undef, undef, undef, undef, undef, undef, undef, undef, undef, undef, undef, undef, undef, undef, undef, undef, undef, undef, undef, undef, undef, undef, undef, undef, undef, undef, undef, undef, undef]).toArray, []⟩) (by kernel_rfl) ?_
    refine wp_block ?_
    refine wp_seq ?_
    refine lwp_list ?_
    refine ls_move (x := x0) (by kernel_rfl) (by kernel_rfl) ?_
    refine ls_move (x := x1) (by kernel_rfl) (by kernel_rfl) ?_
    refine ls_d (d := some 17) (by kernel_rfl) (by kernel_rfl) HA_1 (d_call (by kernel_rfl) (by kernel_rfl) H) (fun x17 h_2 w_2 H HA_2 => ?_)
    refine ls_move (x := x17) (by kernel_rfl) (by kernel_rfl) ?_
    refine ls_and [(), (), (), (), (), (), ()] (fun K a w => ∃ (D : Nat → Value) (x25 : Value), a = ⟨([x0, x1, undef, undef, x10, x0, x1, x7, x0, x1, x10, undef, undef, undef, undef, x0, x1, x17, x17, (D 0), (D 1), (D 2), (D 3), (D 4), (D 5), x25, undef, undef, undef, undef, undef, undef, undef, undef, undef, undef, undef, undef, undef, undef, undef, undef, undef, undef, undef, undef, undef, undef, undef, undef] ++ [undef, undef, undef, undef, undef, undef, undef, undef, undef, undef, undef, undef, undef, undef, undef, undef, undef, undef, undef, undef, undef, undef, undef, undef, undef, undef, undef, undef, undef, undef, undef, undef, undef, undef, undef, undef, undef, undef, undef, undef]).toArray, []⟩ ∧ At w0 w h_2 ∧ K x25) H (fun hb_2 H => ?_) (fun hb_2 H => ?_) ?_
    · refine ls_move (x := x0) (by rw [hb_2]; kernel_rfl) (by kernel_rfl) ?_
      refine ls_p (d := some 20) (by kernel_rfl) (by rw [hb_2]; kernel_rfl) (p_nil (by kernel_rfl) H) (fun x20 H => ?_)
      refine ls_fr (b := ⟨([x0, x1, undef, undef, x10, x0, x1, x7, x0, x1, x10, undef, undef, undef, undef, x0, x1, x17, x17, x0, x20, undef, undef, undef, undef, undef, undef, undef, undef, undef, undef, undef, undef, undef, undef, undef, undef, undef, undef, undef, undef, undef, undef, undef, undef, undef, undef, undef, undef, undef] ++ [undef, undef, undef, undef, undef, undef, undef, undef, undef, undef, undef, undef, undef, undef, undef, undef, undef, undef, undef, undef, undef, undef, undef, undef, undef, undef, undef, undef, undef, undef, undef, undef, undef, undef, undef, undef, undef, undef, undef, undef]).toArray, []⟩) (by kernel_rfl) ?_
      refine ls_p (d := some 21) (by kernel_rfl) (by rw [hb_2]; kernel_rfl) (p_off Try.underlying72 rfl (fun w => ⟨_, Try.sizeOf30 w⟩) rfl (by kernel_rfl) H) (fun x21 H => ?_)
      refine ls_y (d := some 22) (by kernel_rfl) (by rw [hb_2]; kernel_rfl) HA_2 (y_ld Try.isAgg30 (by kernel_rfl) H) (fun x22 H => ?_)
      refine ls_p (d := some 23) (by kernel_rfl) (by rw [hb_2]; kernel_rfl) (p_len Try.underlying30 (by kernel_rfl) H) (fun x23 H => ?_)
      refine ls_p (d := some 24) (by kernel_rfl) (by rw [hb_2]; kernel_rfl) (p_sGt (by kernel_rfl) (by kernel_rfl) H) (fun x24 H => ?_)
      refine ls_pick_t (x := x24) (by kernel_rfl) (by rw [hb_2]; kernel_rfl) (by kernel_rfl) ?_
      refine ls_nil ?_
      refine then_normal ?_
      exact ⟨(fun i => ([x0, x20, x21, x22, x23, x24]).getD i undef), x24, by kernel_rfl, HA_2, H⟩
    · refine ls_skip (d := some 19) (by kernel_rfl) (by rw [hb_2]; kernel_rfl) ?_
      refine ls_skip (d := some 20) (by kernel_rfl) (by rw [hb_2]; kernel_rfl) ?_
      refine ls_fr (b := ⟨([x0, x1, undef, undef, x10, x0, x1, x7, x0, x1, x10, undef, undef, undef, undef, x0, x1, x17, x17, undef, undef, undef, undef, undef, undef, undef, undef, undef, undef, undef, undef, undef, undef, undef, undef, undef, undef, undef, undef, undef, undef, undef, undef, undef, undef, undef, undef, undef, undef, undef] ++ [undef, undef, undef, undef, undef, undef, undef, undef, undef, undef, undef, undef, undef, undef, undef, undef, undef, undef, undef, undef, undef, undef, undef, undef, undef, undef, undef, undef, undef, undef, undef, undef, undef, undef, undef, undef, undef, undef, undef, undef]).toArray, []⟩) (by kernel_rfl) ?_
      refine ls_skip (d := some 21) (by kernel_rfl) (by rw [hb_2]; kernel_rfl) ?_
      refine ls_skip (d := some 22) (by kernel_rfl) (by rw [hb_2]; kernel_rfl) ?_
      refine ls_skip (d := some 23) (by kernel_rfl) (by rw [hb_2]; kernel_rfl) ?_
      refine ls_skip (d := some 24) (by kernel_rfl) (by rw [hb_2]; kernel_rfl) ?_
      refine ls_pick_f (y := (.bool false)) (by kernel_rfl) (by rw [hb_2]; kernel_rfl) (by kernel_rfl) ?_
      refine ls_nil ?_
      refine then_normal ?_
      exact ⟨(fun i => ([undef, undef, undef, undef, undef, undef]).getD i undef), (.bool false), by kernel_rfl, HA_2, H⟩
    · rintro _ w_3 ⟨D, x25, rfl, HA_3, H⟩
      refine ls_move (x := x25) (by kernel_rfl) (by kernel_rfl) ?_
      refine ls_andh [(), (), ()] (fun K a w => ∃ (D_1 : Nat → Value) (x29 : Value) (h_3 : Heap), a = ⟨([x0, x1, undef, undef, x10, x0, x1, x7, x0, x1, x10, undef, undef, undef, undef, x0, x1, x17, x17, (D 0), (D 1), (D 2), (D 3), (D 4), (D 5), x25, x25, (D_1 0), (D_1 1), x29, undef, undef, undef, undef, undef, undef, undef, undef, undef, undef, undef, undef, undef, undef, undef, undef, undef, undef, undef, undef] ++ [undef, undef, undef, undef, undef, undef, undef, undef, undef, undef, undef, undef, undef, undef, undef, undef, undef, undef, undef, undef, undef, undef, undef, undef, undef, undef, undef, undef, undef, undef, undef, undef, undef, undef, undef, undef, undef, undef, undef, undef]).toArray, []⟩ ∧ At w0 w h_3 ∧ K x29 h_3) H (fun hb_1 H => ?_) (fun hb_1 H => ?_) ?_
      · refine ls_move (x := x0) (by rw [hb_1]; kernel_rfl) (by kernel_rfl) ?_
        refine ls_d (d := some 28) (by kernel_rfl) (by rw [hb_1]; kernel_rfl) HA_3 (d_call (by kernel_rfl) (by kernel_rfl) H) (fun x28 h_26 w_27 H HA_27 => ?_)
        refine ls_pick_t (x := x28) (by kernel_rfl) (by rw [hb_1]; kernel_rfl) (by kernel_rfl) ?_
        refine ls_nil ?_
        refine then_normal ?_
        exact ⟨(fun i => ([x0, x28]).getD i undef), x28, h_26, by kernel_rfl, HA_27, H⟩
      · refine ls_skip (d := some 27) (by kernel_rfl) (by rw [hb_1]; kernel_rfl) ?_
        refine ls_skip (d := some 28) (by kernel_rfl) (by rw [hb_1]; kernel_rfl) ?_
        refine ls_pick_f (y := (.bool false)) (by kernel_rfl) (by rw [hb_1]; kernel_rfl) (by kernel_rfl) ?_
        refine ls_nil ?_
        refine then_normal ?_
        exact ⟨(fun i => ([undef, undef]).getD i undef), (.bool false), h_2, by kernel_rfl, HA_3, H⟩
      · rintro _ w_4 ⟨D_1, x29, h_3, rfl, HA_4, H⟩
        refine ls_assign (x := x29) (by kernel_rfl) (by kernel_rfl) ?_
        refine ls_nil ?_
        refine then_normal ?_
        refine fr_eq (b := ⟨([x0, x1, undef, undef, x10, x0, x1, x7, x0, x1, x10, undef, undef, undef, x29, x0, x1, x17, x17, (D 0), (D 1), (D 2), (D 3), (D 4), (D 5), x25, x25, (D_1 0), (D_1 1), x29, undef, undef, undef, undef, undef, undef, undef, undef, undef, undef, undef, undef, undef, undef, undef, undef, undef, undef, undef, undef] ++ [undef, undef, undef, undef, undef, undef, undef, undef, undef, undef, undef, undef, undef, undef, undef, undef, undef, undef, undef, undef, undef, undef, undef, undef, undef, undef, undef, undef, undef, undef, undef, undef, undef, undef, undef, undef, undef, undef, undef, undef]).toArray, []⟩) (by kernel_rfl) ?_
        refine wp_if rfl H (fun H => ?_) (fun H => ?_)
        · refine lwp_list ?_
          refine ls_move (x := x0) (by kernel_rfl) (by kernel_rfl) ?_
          refine ls_d (d := some 31) (by kernel_rfl) (by kernel_rfl) HA_4 (d_call (by kernel_rfl) (by kernel_rfl) H) (fun x31 h_4 w_5 H HA_5 => ?_)
          refine ls_nil ?_
          refine block_normal ?_
          exact end0 (Try.results67) (by kernel_rfl) HA_5 H _ (.inl rfl)
        · refine wp_seq ?_
          refine lwp_list ?_
          refine ls_move (x := x0) (by kernel_rfl) (by kernel_rfl) ?_
          refine ls_move (x := x1) (by kernel_rfl) (by kernel_rfl) ?_
          refine ls_d (d := some 35) (by kernel_rfl) (by kernel_rfl) HA_4 (d_call (by kernel_rfl) (by kernel_rfl) H) (fun x35 h_5 w_6 H HA_6 => ?_)
          refine ls_assign (x := x35) (by kernel_rfl) (by kernel_rfl) ?_
          refine ls_nil ?_
          refine then_normal ?_
          refine fr_eq (b := ⟨([x0, x1, undef, undef, x10, x0, x1, x7, x0, x1, x10, undef, undef, undef, x29, x0, x1, x17, x17, (D 0), (D 1), (D 2), (D 3), (D 4), (D 5), x25, x25, (D_1 0), (D_1 1), x29, undef, undef, x35, x0, x1, x35, undef, undef, undef, undef, undef, undef, undef, undef, undef, undef, undef, undef, undef, undef] ++ [undef, undef, undef, undef, undef, undef, undef, undef, undef, undef, undef, undef, undef, undef, undef, undef, undef, undef, undef, undef, undef, undef, undef, undef, undef, undef, undef, undef, undef, undef, undef, undef, undef, undef, undef, undef, undef, undef, undef, undef]).toArray, []⟩) (by kernel_rfl) ?_
          refine wp_if rfl H (fun H => ?_) (fun H => ?_)
          · refine wp_seq ?_
            refine wp_seq ?_
            refine lwp_list ?_
            refine ls_move (x := x0) (by kernel_rfl) (by kernel_rfl) ?_
            refine ls_p (d := some 37) (by kernel_rfl) (by kernel_rfl) (p_nil (by kernel_rfl) H) (fun x37 H => ?_)
            refine ls_p (d := some 38) (by kernel_rfl) (by kernel_rfl) (p_off Try.underlying72 rfl (fun w => ⟨_, Try.sizeOf30 w⟩) rfl (by kernel_rfl) H) (fun x38 H => ?_)
            refine ls_y (d := some 39) (by kernel_rfl) (by kernel_rfl) HA_6 (y_ld Try.isAgg30 (by kernel_rfl) H) (fun x39 H => ?_)
            refine ls_p (d := some 40) (by kernel_rfl) (by kernel_rfl) (p_len Try.underlying30 (by kernel_rfl) H) (fun x40 H => ?_)
            refine ls_p (d := some 41) (by kernel_rfl) (by kernel_rfl) (p_sGt (by kernel_rfl) (by kernel_rfl) H) (fun x41 H => ?_)
            refine ls_nil ?_
            refine then_normal ?_
            refine fr_eq (b := ⟨([x0, x1, undef, undef, x10, x0, x1, x7, x0, x1, x10, undef, undef, undef, x29, x0, x1, x17, x17, (D 0), (D 1), (D 2), (D 3), (D 4), (D 5), x25, x25, (D_1 0), (D_1 1), x29, undef, undef, x35, x0, x1, x35, x0, x37, x38, x39, x40, x41, undef, undef, undef, undef, undef, undef, undef, undef] ++ [undef, undef, undef, undef, undef, undef, undef, undef, undef, undef, undef, undef, undef, undef, undef, undef, undef, undef, undef, undef, undef, undef, undef, undef, undef, undef, undef, undef, undef, undef, undef, undef, undef, undef, undef, undef, undef, undef, undef, undef]).toArray, []⟩) (by kernel_rfl) ?_
            refine wp_join (fun a w => ∃ (D_2 : Nat → Value) (h_6 : Heap), a = ⟨([x0, x1, undef, undef, x10, x0, x1, x7, x0, x1, x10, undef, undef, undef, x29, x0, x1, x17, x17, (D 0), (D 1), (D 2), (D 3), (D 4), (D 5), x25, x25, (D_1 0), (D_1 1), x29, undef, undef, x35, x0, x1, x35, x0, x37, x38, x39, x40, x41, (D_2 0), (D_2 1), undef, undef, undef, undef, undef, undef] ++ [undef, undef, undef, undef, undef, undef, undef, undef, undef, undef, undef, undef, undef, undef, undef, undef, undef, undef, undef, undef, undef, undef, undef, undef, undef, undef, undef, undef, undef, undef, undef, undef, undef, undef, undef, undef, undef, undef, undef, undef]).toArray, []⟩ ∧ At w0 w h_6 ∧ ldisc_Disc_edit_j1 R x0 x1 h_6) ?_ ?_
            · refine wp_if rfl H (fun H => ?_) (fun H => ?_)
              · refine lwp_list ?_
                refine ls_move (x := x0) (by kernel_rfl) (by kernel_rfl) ?_
                refine ls_d (d := some 43) (by kernel_rfl) (by kernel_rfl) HA_6 (d_call (by kernel_rfl) (by kernel_rfl) H) (fun x43 h_9 w_10 H HA_10 => ?_)
                refine ls_nil ?_
                exact ⟨(fun i => ([x0, x43]).getD i undef), h_9, by kernel_rfl, HA_10, H⟩
              · refine wp_skip ?_
                exact ⟨(fun i => ([undef, undef]).getD i undef), h_5, by kernel_rfl, HA_6, H⟩
            · rintro _ w_7 ⟨D_2, h_6, rfl, HA_7, H⟩
              unfold ldisc_Disc_edit_j1 at H
              refine then_normal ?_
              refine fr_eq (b := ⟨([x0, x1, undef, undef, x10, x0, x1, x7, x0, x1, x10, undef, undef, undef, x29, x0, x1, x17, x17, (D 0), (D 1), (D 2), (D 3), (D 4), (D 5), x25, x25, (D_1 0), (D_1 1), x29, undef, undef, x35, x0, x1, x35, x0, x37, x38, x39, x40, x41, (D_2 0), (D_2 1), undef, undef, undef, undef, undef, undef] ++ [undef, undef, undef, undef, undef, undef, undef, undef, undef, undef, undef, undef, undef, undef, undef, undef, undef, undef, undef, undef, undef, undef, undef, undef, undef, undef, undef, undef, undef, undef, undef, undef, undef, undef, undef, undef, undef, undef, undef, undef]).toArray, []⟩) (by kernel_rfl) ?_
              refine wp_seq ?_
              refine lwp_list ?_
              refine ls_move (x := x0) (by kernel_rfl) (by kernel_rfl) ?_
              refine ls_d (d := some 45) (by kernel_rfl) (by kernel_rfl) HA_7 (d_call (by kernel_rfl) (by kernel_rfl) H) (fun x45 h_7 w_8 H HA_8 => ?_)
              refine ls_p (d := some 46) (by kernel_rfl) (by kernel_rfl) (p_not (by kernel_rfl) H) (fun x46 H => ?_)
              refine ls_nil ?_
              refine then_normal ?_
              refine fr_eq (b := ⟨([x0, x1, undef, undef, x10, x0, x1, x7, x0, x1, x10, undef, undef, undef, x29, x0, x1, x17, x17, (D 0), (D 1), (D 2), (D 3), (D 4), (D 5), x25, x25, (D_1 0), (D_1 1), x29, undef, undef, x35, x0, x1, x35, x0, x37, x38, x39, x40, x41, (D_2 0), (D_2 1), x0, x45, x46, undef, undef, undef] ++ [undef, undef, undef, undef, undef, undef, undef, undef, undef, undef, undef, undef, undef, undef, undef, undef, undef, undef, undef, undef, undef, undef, undef, undef, undef, undef, undef, undef, undef, undef, undef, undef, undef, undef, undef, undef, undef, undef, undef, undef]).toArray, []⟩) (by kernel_rfl) ?_
              refine wp_if rfl H (fun H => ?_) (fun H => ?_)
              · refine lwp_list ?_
                refine ls_move (x := x0) (by kernel_rfl) (by kernel_rfl) ?_
                refine ls_move (x := x1) (by kernel_rfl) (by kernel_rfl) ?_
                refine ls_d (d := some 49) (by kernel_rfl) (by kernel_rfl) HA_8 (d_call (by kernel_rfl) (by kernel_rfl) H) (fun x49 h_8 w_9 H HA_9 => ?_)
                refine ls_nil ?_
                refine block_normal ?_
                exact end0 (Try.results67) (by kernel_rfl) HA_9 H _ (.inl rfl)
              · refine wp_skip ?_
                refine block_normal ?_
                exact end0 (Try.results67) (by kernel_rfl) HA_8 H _ (.inl rfl)
          · refine wp_seq ?_
            refine lwp_list ?_
            refine ls_move (x := x10) (by kernel_rfl) (by kernel_rfl) ?_
            refine ls_assign (x := x10) (by kernel_rfl) (by kernel_rfl) ?_
            refine ls_nil ?_
            refine then_normal ?_
            refine fr_eq (b := ⟨([x0, x1, undef, undef, x10, x0, x1, x7, x0, x1, x10, undef, undef, undef, x29, x0, x1, x17, x17, (D 0), (D 1), (D 2), (D 3), (D 4), (D 5), x25, x25, (D_1 0), (D_1 1), x29, undef, undef, x35, x0, x1, x35, undef, undef, undef, undef, undef, undef, undef, undef, undef, undef, undef, undef, undef, undef] ++ [x10, x10, undef, undef, undef, undef, undef, undef, undef, undef, undef, undef, undef, undef, undef, undef, undef, undef, undef, undef, undef, undef, undef, undef, undef, undef, undef, undef, undef, undef, undef, undef, undef, undef, undef, undef, undef, undef, undef, undef]).toArray, []⟩) (by kernel_rfl) ?_
            refine wp_if rfl H (fun H => ?_) (fun H => ?_)
            · refine wp_seq ?_
              refine lwp_list ?_
              refine ls_move (x := x0) (by kernel_rfl) (by kernel_rfl) ?_
              refine ls_d (d := some 53) (by kernel_rfl) (by kernel_rfl) HA_6 (d_call (by kernel_rfl) (by kernel_rfl) H) (fun x53 h_10 w_11 H HA_11 => ?_)
              refine ls_nil ?_
              refine then_normal ?_
              refine fr_eq (b := ⟨([x0, x1, undef, undef, x10, x0, x1, x7, x0, x1, x10, undef, undef, undef, x29, x0, x1, x17, x17, (D 0), (D 1), (D 2), (D 3), (D 4), (D 5), x25, x25, (D_1 0), (D_1 1), x29, undef, undef, x35, x0, x1, x35, undef, undef, undef, undef, undef, undef, undef, undef, undef, undef, undef, undef, undef, undef] ++ [x10, x10, x0, x53, undef, undef, undef, undef, undef, undef, undef, undef, undef, undef, undef, undef, undef, undef, undef, undef, undef, undef, undef, undef, undef, undef, undef, undef, undef, undef, undef, undef, undef, undef, undef, undef, undef, undef, undef, undef]).toArray, []⟩) (by kernel_rfl) ?_
              refine wp_seq ?_
              refine wp_seq ?_
              refine lwp_list ?_
              refine ls_move (x := x0) (by kernel_rfl) (by kernel_rfl) ?_
              refine ls_d (d := some 55) (by kernel_rfl) (by kernel_rfl) HA_11 (d_call (by kernel_rfl) (by kernel_rfl) H) (fun x55 h_11 w_12 H HA_12 => ?_)
              refine ls_p (d := some 56) (by kernel_rfl) (by kernel_rfl) (p_not (by kernel_rfl) H) (fun x56 H => ?_)
              refine ls_nil ?_
              refine then_normal ?_
              refine fr_eq (b := ⟨([x0, x1, undef, undef, x10, x0, x1, x7, x0, x1, x10, undef, undef, undef, x29, x0, x1, x17, x17, (D 0), (D 1), (D 2), (D 3), (D 4), (D 5), x25, x25, (D_1 0), (D_1 1), x29, undef, undef, x35, x0, x1, x35, undef, undef, undef, undef, undef, undef, undef, undef, undef, undef, undef, undef, undef, undef] ++ [x10, x10, x0, x53, x0, x55, x56, undef, undef, undef, undef, undef, undef, undef, undef, undef, undef, undef, undef, undef, undef, undef, undef, undef, undef, undef, undef, undef, undef, undef, undef, undef, undef, undef, undef, undef, undef, undef, undef, undef]).toArray, []⟩) (by kernel_rfl) ?_
              refine wp_join (fun a w => ∃ (D_3 : Nat → Value) (h_12 : Heap), a = ⟨([x0, x1, undef, undef, x10, x0, x1, x7, x0, x1, x10, undef, undef, undef, x29, x0, x1, x17, x17, (D 0), (D 1), (D 2), (D 3), (D 4), (D 5), x25, x25, (D_1 0), (D_1 1), x29, undef, undef, x35, x0, x1, x35, undef, undef, undef, undef, undef, undef, undef, undef, undef, undef, undef, undef, undef, undef] ++ [x10, x10, x0, x53, x0, x55, x56, (D_3 0), (D_3 1), (D_3 2), undef, undef, undef, undef, undef, undef, undef, undef, undef, undef, undef, undef, undef, undef, undef, undef, undef, undef, undef, undef, undef, undef, undef, undef, undef, undef, undef, undef, undef, undef]).toArray, []⟩ ∧ At w0 w h_12 ∧ ldisc_Disc_edit_j2 R x0 h_12) ?_ ?_
              · refine wp_if rfl H (fun H => ?_) (fun H => ?_)
                · refine lwp_list ?_
                  refine ls_move (x := x0) (by kernel_rfl) (by kernel_rfl) ?_
                  refine ls_move (x := x1) (by kernel_rfl) (by kernel_rfl) ?_
                  refine ls_d (d := some 59) (by kernel_rfl) (by kernel_rfl) HA_12 (d_call (by kernel_rfl) (by kernel_rfl) H) (fun x59 h_19 w_20 H HA_20 => ?_)
                  refine ls_nil ?_
                  exact ⟨(fun i => ([x0, x1, x59]).getD i undef), h_19, by kernel_rfl, HA_20, H⟩
                · refine wp_skip ?_
                  exact ⟨(fun i => ([undef, undef, undef]).getD i undef), h_11, by kernel_rfl, HA_12, H⟩
              · rintro _ w_13 ⟨D_3, h_12, rfl, HA_13, H⟩
                unfold ldisc_Disc_edit_j2 at H
                refine then_normal ?_
                refine fr_eq (b := ⟨([x0, x1, undef, undef, x10, x0, x1, x7, x0, x1, x10, undef, undef, undef, x29, x0, x1, x17, x17, (D 0), (D 1), (D 2), (D 3), (D 4), (D 5), x25, x25, (D_1 0), (D_1 1), x29, undef, undef, x35, x0, x1, x35, undef, undef, undef, undef, undef, undef, undef, undef, undef, undef, undef, undef, undef, undef] ++ [x10, x10, x0, x53, x0, x55, x56, (D_3 0), (D_3 1), (D_3 2), undef, undef, undef, undef, undef, undef, undef, undef, undef, undef, undef, undef, undef, undef, undef, undef, undef, undef, undef, undef, undef, undef, undef, undef, undef, undef, undef, undef, undef, undef]).toArray, []⟩) (by kernel_rfl) ?_
                refine wp_seq ?_
                refine lwp_list ?_
                refine ls_move (x := x0) (by kernel_rfl) (by kernel_rfl) ?_
                refine ls_d (d := some 61) (by kernel_rfl) (by kernel_rfl) HA_13 (d_call (by kernel_rfl) (by kernel_rfl) H) (fun x61 h_13 w_14 H HA_14 => ?_)
                refine ls_move (x := x61) (by kernel_rfl) (by kernel_rfl) ?_
                refine ls_andh [(), (), ()] (fun K a w => ∃ (D_4 : Nat → Value) (x65 : Value) (h_14 : Heap), a = ⟨([x0, x1, undef, undef, x10, x0, x1, x7, x0, x1, x10, undef, undef, undef, x29, x0, x1, x17, x17, (D 0), (D 1), (D 2), (D 3), (D 4), (D 5), x25, x25, (D_1 0), (D_1 1), x29, undef, undef, x35, x0, x1, x35, undef, undef, undef, undef, undef, undef, undef, undef, undef, undef, undef, undef, undef, undef] ++ [x10, x10, x0, x53, x0, x55, x56, (D_3 0), (D_3 1), (D_3 2), x0, x61, x61, (D_4 0), (D_4 1), x65, undef, undef, undef, undef, undef, undef, undef, undef, undef, undef, undef, undef, undef, undef, undef, undef, undef, undef, undef, undef, undef, undef, undef, undef]).toArray, []⟩ ∧ At w0 w h_14 ∧ K x65 h_14) H (fun hb H => ?_) (fun hb H => ?_) ?_
                · refine ls_move (x := x0) (by rw [hb]; kernel_rfl) (by kernel_rfl) ?_
                  refine ls_d (d := some 64) (by kernel_rfl) (by rw [hb]; kernel_rfl) HA_14 (d_call (by kernel_rfl) (by kernel_rfl) H) (fun x64 h_18 w_19 H HA_19 => ?_)
                  refine ls_pick_t (x := x64) (by kernel_rfl) (by rw [hb]; kernel_rfl) (by kernel_rfl) ?_
                  refine ls_nil ?_
                  refine then_normal ?_
                  exact ⟨(fun i => ([x0, x64]).getD i undef), x64, h_18, by kernel_rfl, HA_19, H⟩
                · refine ls_skip (d := some 63) (by kernel_rfl) (by rw [hb]; kernel_rfl) ?_
                  refine ls_skip (d := some 64) (by kernel_rfl) (by rw [hb]; kernel_rfl) ?_
                  refine ls_pick_f (y := (.bool false)) (by kernel_rfl) (by rw [hb]; kernel_rfl) (by kernel_rfl) ?_
                  refine ls_nil ?_
                  refine then_normal ?_
                  exact ⟨(fun i => ([undef, undef]).getD i undef), (.bool false), h_13, by kernel_rfl, HA_14, H⟩
                · rintro _ w_15 ⟨D_4, x65, h_14, rfl, HA_15, H⟩
                  refine ls_nil ?_
                  refine then_normal ?_
                  refine fr_eq (b := ⟨([x0, x1, undef, undef, x10, x0, x1, x7, x0, x1, x10, undef, undef, undef, x29, x0, x1, x17, x17, (D 0), (D 1), (D 2), (D 3), (D 4), (D 5), x25, x25, (D_1 0), (D_1 1), x29, undef, undef, x35, x0, x1, x35, undef, undef, undef, undef, undef, undef, undef, undef, undef, undef, undef, undef, undef, undef] ++ [x10, x10, x0, x53, x0, x55, x56, (D_3 0), (D_3 1), (D_3 2), x0, x61, x61, (D_4 0), (D_4 1), x65, undef, undef, undef, undef, undef, undef, undef, undef, undef, undef, undef, undef, undef, undef, undef, undef, undef, undef, undef, undef, undef, undef, undef, undef]).toArray, []⟩) (by kernel_rfl) ?_
                  refine wp_if rfl H (fun H => ?_) (fun H => ?_)
                  · refine lwp_list ?_
                    refine ls_move (x := x0) (by kernel_rfl) (by kernel_rfl) ?_
                    refine ls_move (x := x0) (by kernel_rfl) (by kernel_rfl) ?_
                    refine ls_p (d := some 68) (by kernel_rfl) (by kernel_rfl) (p_nil (by kernel_rfl) H) (fun x68 H => ?_)
                    refine ls_p (d := some 69) (by kernel_rfl) (by kernel_rfl) (p_off Try.underlying72 rfl (fun w => ⟨_, Try.sizeOf30 w⟩) rfl (by kernel_rfl) H) (fun x69 H => ?_)
                    refine ls_y (d := some 70) (by kernel_rfl) (by kernel_rfl) HA_15 (y_ld Try.isAgg30 (by kernel_rfl) H) (fun x70 H => ?_)
                    refine ls_d (d := some 71) (by kernel_rfl) (by kernel_rfl) HA_15 (d_slit (zc := #[.int .u8 0]) Try.underlying30 Try.sizeOf5 (by decide) (.inr ⟨by decide, _, Try.zeroValue5, (by kernel_rfl)⟩) (by kernel_rfl) (by kernel_rfl) H) (fun x71 h_15 w_16 H HA_16 => ?_)
                    refine ls_fr (b := ⟨([x0, x1, undef, undef, x10, x0, x1, x7, x0, x1, x10, undef, undef, undef, x29, x0, x1, x17, x17, (D 0), (D 1), (D 2), (D 3), (D 4), (D 5), x25, x25, (D_1 0), (D_1 1), x29, undef, undef, x35, x0, x1, x35, undef, undef, undef, undef, undef, undef, undef, undef, undef, undef, undef, undef, undef, undef] ++ [x10, x10, x0, x53, x0, x55, x56, (D_3 0), (D_3 1), (D_3 2), x0, x61, x61, (D_4 0), (D_4 1), x65, x0, x0, x68, x69, x70, x71, undef, undef, undef, undef, undef, undef, undef, undef, undef, undef, undef, undef, undef, undef, undef, undef, undef, undef]).toArray, []⟩) (by kernel_rfl) ?_
                    refine ls_d (d := some 72) (by kernel_rfl) (by kernel_rfl) HA_16 (d_app (z := #[.int .u8 0]) Try.underlying30 Try.underlying30 (.inl ⟨_, rfl⟩) Try.typeInfo5 (by kernel_rfl) Try.sizeOf5 Try.zeroValue5 (by kernel_rfl) (by kernel_rfl) (by kernel_rfl) H) (fun x72 h_16 w_17 H HA_17 => ?_)
                    refine ls_p (d := some 73) (by kernel_rfl) (by kernel_rfl) (p_nil (by kernel_rfl) H) (fun x73 H => ?_)
                    refine ls_p (d := some 74) (by kernel_rfl) (by kernel_rfl) (p_off Try.underlying72 rfl (fun w => ⟨_, Try.sizeOf30 w⟩) rfl (by kernel_rfl) H) (fun x74 H => ?_)
                    refine ls_d (d := none) (by kernel_rfl) (by kernel_rfl) HA_17 (d_st Try.sizeOf30 (by kernel_rfl) (by kernel_rfl) H) (fun _ h_17 w_18 H HA_18 => ?_)
                    refine ls_nil ?_
                    refine block_normal ?_
                    exact end0 (Try.results67) (by kernel_rfl) HA_18 H _ (.inl rfl)
                  · refine wp_skip ?_
                    refine block_normal ?_
                    exact end0 (Try.results67) (by kernel_rfl) HA_15 H _ (.inl rfl)
            · refine wp_seq ?_
              refine lwp_list ?_
              refine ls_move (x := x0) (by kernel_rfl) (by kernel_rfl) ?_
              refine ls_move (x := x1) (by kernel_rfl) (by kernel_rfl) ?_
              refine ls_d (d := some 78) (by kernel_rfl) (by kernel_rfl) HA_6 (d_call (by kernel_rfl) (by kernel_rfl) H) (fun x78 h_20 w_21 H HA_21 => ?_)
              refine ls_assign (x := x78) (by kernel_rfl) (by kernel_rfl) ?_
              refine ls_nil ?_
              refine then_normal ?_
              refine fr_eq (b := ⟨([x0, x1, undef, undef, x10, x0, x1, x7, x0, x1, x10, undef, undef, undef, x29, x0, x1, x17, x17, (D 0), (D 1), (D 2), (D 3), (D 4), (D 5), x25, x25, (D_1 0), (D_1 1), x29, undef, undef, x35, x0, x1, x35, undef, undef, undef, undef, undef, undef, undef, undef, undef, undef, undef, undef, undef, undef] ++ [x10, x10, undef, undef, undef, undef, undef, undef, undef, undef, undef, undef, undef, undef, undef, undef, undef, undef, undef, undef, undef, undef, undef, undef, undef, x78, x0, x1, x78, undef, undef, undef, undef, undef, undef, undef, undef, undef, undef, undef]).toArray, []⟩) (by kernel_rfl) ?_
              refine wp_if rfl H (fun H => ?_) (fun H => ?_)
              · refine lwp_list ?_
                refine ls_move (x := x0) (by kernel_rfl) (by kernel_rfl) ?_
                refine ls_d (d := some 80) (by kernel_rfl) (by kernel_rfl) HA_21 (d_call (by kernel_rfl) (by kernel_rfl) H) (fun x80 h_21 w_22 H HA_22 => ?_)
                refine ls_nil ?_
                refine block_normal ?_
                exact end0 (Try.results67) (by kernel_rfl) HA_22 H _ (.inl rfl)
              · refine wp_seq ?_
                refine lwp_list ?_
                refine ls_move (x := x0) (by kernel_rfl) (by kernel_rfl) ?_
                refine ls_move (x := x1) (by kernel_rfl) (by kernel_rfl) ?_
                refine ls_d (d := some 84) (by kernel_rfl) (by kernel_rfl) HA_21 (d_call (by kernel_rfl) (by kernel_rfl) H) (fun x84 h_22 w_23 H HA_23 => ?_)
                refine ls_assign (x := x84) (by kernel_rfl) (by kernel_rfl) ?_
                refine ls_nil ?_
                refine then_normal ?_
                refine fr_eq (b := ⟨([x0, x1, undef, undef, x10, x0, x1, x7, x0, x1, x10, undef, undef, undef, x29, x0, x1, x17, x17, (D 0), (D 1), (D 2), (D 3), (D 4), (D 5), x25, x25, (D_1 0), (D_1 1), x29, undef, undef, x35, x0, x1, x35, undef, undef, undef, undef, undef, undef, undef, undef, undef, undef, undef, undef, undef, undef] ++ [x10, x10, undef, undef, undef, undef, undef, undef, undef, undef, undef, undef, undef, undef, undef, undef, undef, undef, undef, undef, undef, undef, undef, undef, undef, x78, x0, x1, x78, undef, undef, x84, x0, x1, x84, undef, undef, undef, undef, undef]).toArray, []⟩) (by kernel_rfl) ?_
                refine wp_if rfl H (fun H => ?_) (fun H => ?_)
                · refine wp_seq ?_
                  refine lwp_list ?_
                  refine ls_move (x := x0) (by kernel_rfl) (by kernel_rfl) ?_
                  refine ls_move (x := x1) (by kernel_rfl) (by kernel_rfl) ?_
                  refine ls_d (d := some 87) (by kernel_rfl) (by kernel_rfl) HA_23 (d_call (by kernel_rfl) (by kernel_rfl) H) (fun x87 h_23 w_24 H HA_24 => ?_)
                  refine ls_nil ?_
                  refine then_normal ?_
                  refine fr_eq (b := ⟨([x0, x1, undef, undef, x10, x0, x1, x7, x0, x1, x10, undef, undef, undef, x29, x0, x1, x17, x17, (D 0), (D 1), (D 2), (D 3), (D 4), (D 5), x25, x25, (D_1 0), (D_1 1), x29, undef, undef, x35, x0, x1, x35, undef, undef, undef, undef, undef, undef, undef, undef, undef, undef, undef, undef, undef, undef] ++ [x10, x10, undef, undef, undef, undef, undef, undef, undef, undef, undef, undef, undef, undef, undef, undef, undef, undef, undef, undef, undef, undef, undef, undef, undef, x78, x0, x1, x78, undef, undef, x84, x0, x1, x84, x0, x1, x87, undef, undef]).toArray, []⟩) (by kernel_rfl) ?_
                  refine wp_if rfl H (fun H => ?_) (fun H => ?_)
                  · refine lwp_list ?_
                    refine ls_move (x := x0) (by kernel_rfl) (by kernel_rfl) ?_
                    refine ls_d (d := some 89) (by kernel_rfl) (by kernel_rfl) HA_24 (d_call (by kernel_rfl) (by kernel_rfl) H) (fun x89 h_24 w_25 H HA_25 => ?_)
                    refine ls_nil ?_
                    refine block_normal ?_
                    exact end0 (Try.results67) (by kernel_rfl) HA_25 H _ (.inl rfl)
                  · refine wp_skip ?_
                    refine block_normal ?_
                    exact end0 (Try.results67) (by kernel_rfl) HA_24 H _ (.inl rfl)
                · refine lwp_list ?_
                  refine ls_move (x := x0) (by kernel_rfl) (by kernel_rfl) ?_
                  refine ls_move (x := x1) (by kernel_rfl) (by kernel_rfl) ?_
                  refine ls_d (d := some 13) (by kernel_rfl) (by kernel_rfl) HA_23 (d_call (by kernel_rfl) (by kernel_rfl) H) (fun x13 h_25 w_26 H HA_26 => ?_)
                  refine ls_nil ?_
                  refine block_normal ?_
                  exact end0 (Try.results67) (by kernel_rfl) HA_26 H _ (.inl rfl)

end Go.Proofs.Ytlcklnbgknhhkaa
