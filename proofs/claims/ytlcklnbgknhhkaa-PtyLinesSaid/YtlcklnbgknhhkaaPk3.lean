/- Texts in one. -/
import Derived.Test.YtlcklnbgknhhkaaFnC
import Derived.Test.YtlcklnbgknhhkaaPk2
section
/- The shallow reading of one function, and that the function does it. Written by a program. -/
set_option linter.unusedVariables false
namespace Go.Proofs.Ytlcklnbgknhhkaa
open Go Go.HW

def ldisc_Disc_edit_j1 (R : Value → Heap → Prop) (x0 x1 : Value) (h_6 : Heap) : Prop :=
  ldisc_Disc_local_c x0 (.int .i64 4) h_6 fun x45 h_7 => 
  sNot x45 fun x46 =>
  sIf x46 (ldisc_Disc_show_c x0 x1 h_7 fun x49 h_8 => 
  R unit h_8) (R unit h_7)
def ldisc_Disc_edit_j2 (R : Value → Heap → Prop) (x0 : Value) (h_12 : Heap) : Prop :=
  ldisc_Disc_local_c x0 (.int .i64 8) h_12 fun x61 h_13 => 
  sAndH x61 h_13 (fun k =>
  ldisc_Disc_local_c x0 (.int .i64 2) h_13 fun x64 h_18 => 
  k x64 h_18) fun x65 h_14 =>
  sIf x65 (sNil x0 fun x68 =>
  sOff x68 22 fun x69 =>
  sLd h_14 x69 fun x70 =>
  sSlit h_14 #[.int .u8 0] [(0, 1, (.int .u8 10))] 5 1 fun x71 h_15 => 
  sApp h_15 x70 x71 #[.int .u8 0] 5 1 fun x72 h_16 => 
  sNil x0 fun x73 =>
  sOff x73 22 fun x74 =>
  sSt h_16 x74 x72 fun h_17 => 
  R unit h_17) (R unit h_14)
def ldisc_Disc_edit_S (x0 x1 : Value) (h : Heap) (R : Value → Heap → Prop) : Prop :=
  ldisc_Disc_extended_c x0 x1 h fun x7 h => 
  sIf x7 (R unit h) (ldisc_Disc_is_c x0 (.int .i64 6) x1 h fun x10 h_1 => 
  ldisc_Disc_is_c x0 (.int .i64 5) x1 h_1 fun x17 h_2 => 
  sAnd x17 (fun k_2 =>
  sNil x0 fun x20 =>
  sOff x20 17 fun x21 =>
  sLd h_2 x21 fun x22 =>
  sLen x22 fun x23 =>
  sGt x23 (.int .i64 0) fun x24 =>
  k_2 x24) fun x25 =>
  sAndH x25 h_2 (fun k_1 =>
  ldisc_Disc_local_c x0 (.int .i64 4) h_2 fun x28 h_26 => 
  k_1 x28 h_26) fun x29 h_3 =>
  sIf x29 (ldisc_Disc_back_c x0 h_3 fun x31 h_4 => 
  R unit h_4) (ldisc_Disc_is_c x0 (.int .i64 5) x1 h_3 fun x35 h_5 => 
  sIf x35 (sNil x0 fun x37 =>
  sOff x37 17 fun x38 =>
  sLd h_5 x38 fun x39 =>
  sLen x39 fun x40 =>
  sGt x40 (.int .i64 0) fun x41 =>
  sIf x41 (ldisc_Disc_back_c x0 h_5 fun x43 h_9 => 
  ldisc_Disc_edit_j1 R x0 x1 h_9) (ldisc_Disc_edit_j1 R x0 x1 h_5)) (sIf x10 (ldisc_Disc_backWhile_c x0 (.func (.func 82) #[] #[]) h_5 fun x53 h_10 => 
  ldisc_Disc_local_c x0 (.int .i64 4) h_10 fun x55 h_11 => 
  sNot x55 fun x56 =>
  sIf x56 (ldisc_Disc_show_c x0 x1 h_11 fun x59 h_19 => 
  ldisc_Disc_edit_j2 R x0 h_19) (ldisc_Disc_edit_j2 R x0 h_11)) (ldisc_Disc_is_c x0 (.int .i64 3) x1 h_5 fun x78 h_20 => 
  sIf x78 (ldisc_Disc_ready_c x0 h_20 fun x80 h_21 => 
  R unit h_21) (ldisc_Disc_ends_c x0 x1 h_20 fun x84 h_22 => 
  sIf x84 (ldisc_Disc_put_c x0 x1 h_22 fun x87 h_23 => 
  sIf x87 (ldisc_Disc_ready_c x0 h_23 fun x89 h_24 => 
  R unit h_24) (R unit h_23)) (ldisc_Disc_put_c x0 x1 h_22 fun x13 h_25 => 
  R unit h_25))))))
set_option maxRecDepth 100000 in
theorem ldisc_Disc_edit_runs {x0 x1 : Value} {h : Heap} {R : Value → Heap → Prop} (H : ldisc_Disc_edit_S x0 x1 h R) : ldisc_Disc_edit_c x0 x1 h R := by
  unfold ldisc_Disc_edit_S at H
  refine runs_of (b := ⟨([x0, x1, undef, undef, undef, undef, undef, undef, undef, undef, undef, undef, undef, undef, undef, undef, undef, undef, undef, undef, undef, undef, undef, undef, undef, undef, undef, undef, undef, undef, undef, undef, undef, undef, undef, undef, undef, undef, undef, undef, undef, undef, undef, undef, undef, undef, undef, undef, undef, undef] ++ [undef, undef, undef, undef, undef, undef, undef, undef, undef, undef, undef, undef, undef, undef, undef, undef, undef, undef, undef, undef, undef, undef, undef, undef, undef, undef, undef, undef, undef, undef, undef, undef, undef, undef, undef, undef, undef, undef, undef, undef]).toArray, []⟩) Try.call67 Try.func67 rfl (by kernel_rfl) (fun w0 HA => ?_)
  refine wp_seq ?_
  refine wp_seq ?_
  refine lwp_list ?_
  refine ls_move (x := x0) (by kernel_rfl) (by kernel_rfl) ?_
  refine ls_move (x := x1) (by kernel_rfl) (by kernel_rfl) ?_
  refine ls_d (d := some 7) (by kernel_rfl) (by kernel_rfl) HA (d_call (by kernel_rfl) (by kernel_rfl) H) (fun x7 h w H HA => ?_)
  refine ls_nil ?_
  refine then_normal ?_
  refine fr_eq (b := ⟨([x0, x1, undef, undef, undef, x0, x1, x7, undef, undef, undef, undef, undef, undef, undef, undef, undef, undef, undef, undef, undef, undef, undef, undef, undef, undef, undef, undef, undef, undef, undef, undef, undef, undef, undef, undef, undef, undef, undef, undef, undef, undef, undef, undef, undef, undef, undef, undef, undef, undef] ++ [undef, undef, undef, undef, undef, undef, undef, undef, undef, undef, undef, undef, undef, undef, undef, undef, undef, undef, undef, undef, undef, undef, undef, undef, undef, undef, undef, undef, undef, undef, undef, undef, undef, undef, undef, undef, undef, undef, undef, undef]).toArray, []⟩) (by kernel_rfl) ?_
  refine wp_if rfl H (fun H => ?_) (fun H => ?_)
  · refine wp_ret ?_
    refine then_ret ?_
    exact end0 (Try.results67) (by kernel_rfl) HA H _ (.inr rfl)
  · refine wp_skip ?_
    refine then_normal ?_
    refine fr_eq (b := ⟨([x0, x1, undef, undef, undef, x0, x1, x7, undef, undef, undef, undef, undef, undef, undef, undef, undef, undef, undef, undef, undef, undef, undef, undef, undef, undef, undef, undef, undef, undef, undef, undef, undef, undef, undef, undef, undef, undef, undef, undef, undef, undef, undef, undef, undef, undef, undef, undef, undef, undef] ++ [undef, undef, undef, undef, undef, undef, undef, undef, undef, undef, undef, undef, undef, undef, undef, undef, undef, undef, undef, undef, undef, undef, undef, undef, undef, undef, undef, undef, undef, undef, undef, undef, undef, undef, undef, undef, undef, undef, undef, undef]).toArray, []⟩) (by kernel_rfl) ?_
    refine wp_seq ?_
    refine lwp_list ?_
    refine ls_move (x := x0) (by kernel_rfl) (by kernel_rfl) ?_
    refine ls_move (x := x1) (by kernel_rfl) (by kernel_rfl) ?_
    refine ls_d (d := some 10) (by kernel_rfl) (by kernel_rfl) HA (d_call (by kernel_rfl) (by kernel_rfl) H) (fun x10 h_1 w_1 H HA_1 => ?_)
    refine ls_assign (x := x10) (by kernel_rfl) (by kernel_rfl) ?_
    refine ls_nil ?_
    refine then_normal ?_
    refine fr_eq (b := ⟨([x0, x1, undef, undef, x10, x0, x1, x7, x0, x1, x10, undef, undef, undef, undef, undef, undef, undef, undef, undef, undef, undef, undef, undef, undef, undef, undef, undef, undef, undef, undef, undef, undef, undef, undef, undef, undef, undef, undef, undef, undef, undef, undef, undef, undef, undef, undef, undef, undef, undef] ++ [undef, undef, undef, undef, undef, undef, undef, undef, undef, undef, undef, undef, undef, undef, undef, undef, undef, undef, undef, undef, undef, undef, undef, undef, undef, undef, undef, undef, undef, undef, undef, undef, undef, undef, undef, undef, undef, undef, undef, undef]).toArray, []⟩) (by kernel_rfl) ?_
    refine wp_block ?_
    refine wp_seq ?_
    refine lwp_list ?_
    refine ls_move (x := x0) (by kernel_rfl) (by kernel_rfl) ?_
    refine ls_move (x := x1) (by kernel_rfl) (by kernel_rfl) ?_
    refine ls_d (d := some 17) (by kernel_rfl) (by kernel_rfl) HA_1 (d_call (by kernel_rfl) (by kernel_rfl) H) (fun x17 h_2 w_2 H HA_2 => ?_)
    refine ls_move (x := x17) (by kernel_rfl) (by kernel_rfl) ?_
    refine ls_and [(), (), (), (), (), (), ()] (fun K a w => ∃ (D : Nat → Value) (x25 : Value), a = ⟨([x0, x1, undef, undef, x10, x0, x1, x7, x0, x1, x10, undef, undef, undef, undef, x0, x1, x17, x17, (D 0), (D 1), (D 2), (D 3), (D 4), (D 5), x25, undef, undef, undef, undef, undef, undef, undef, undef, undef, undef, undef, undef, undef, undef, undef, undef, undef, undef, undef, undef, undef, undef, undef, undef] ++ [undef, undef, undef, undef, undef, undef, undef, undef, undef, undef, undef, undef, undef, undef, undef, undef, undef, undef, undef, undef, undef, undef, undef, undef, undef, undef, undef, undef, undef, undef, undef, undef, undef, undef, undef, undef, undef, undef, undef, undef]).toArray, []⟩ ∧ At w0 w h_2 ∧ K x25) H (fun hb_2 H => ?_) (fun hb_2 H => ?_) ?_
    · refine ls_move (x := x0) (by rw [hb_2]; kernel_rfl) (by kernel_rfl) ?_
      refine ls_p (d := some 20) (by kernel_rfl) (by rw [hb_2]; kernel_rfl) (p_nil (by kernel_rfl) H) (fun x20 H => ?_)
      refine ls_fr (b := ⟨([x0, x1, undef, undef, x10, x0, x1, x7, x0, x1, x10, undef, undef, undef, undef, x0, x1, x17, x17, x0, x20, undef, undef, undef, undef, undef, undef, undef, undef, undef, undef, undef, undef, undef, undef, undef, undef, undef, undef, undef, undef, undef, undef, undef, undef, undef, undef, undef, undef, undef] ++ [undef, undef, undef, undef, undef, undef, undef, undef, undef, undef, undef, undef, undef, undef, undef, undef, undef, undef, undef, undef, undef, undef, undef, undef, undef, undef, undef, undef, undef, undef, undef, undef, undef, undef, undef, undef, undef, undef, undef, undef]).toArray, []⟩) (by kernel_rfl) ?_
      refine ls_p (d := some 21) (by kernel_rfl) (by rw [hb_2]; kernel_rfl) (p_off Try.underlying72 rfl (fun w => ⟨_, Try.sizeOf30 w⟩) rfl (by kernel_rfl) H) (fun x21 H => ?_)
      refine ls_y (d := some 22) (by kernel_rfl) (by rw [hb_2]; kernel_rfl) HA_2 (y_ld Try.isAgg30 (by kernel_rfl) H) (fun x22 H => ?_)
      refine ls_p (d := some 23) (by kernel_rfl) (by rw [hb_2]; kernel_rfl) (p_len Try.underlying30 (by kernel_rfl) H) (fun x23 H => ?_)
      refine ls_p (d := some 24) (by kernel_rfl) (by rw [hb_2]; kernel_rfl) (p_sGt (by kernel_rfl) (by kernel_rfl) H) (fun x24 H => ?_)
      refine ls_pick_t (x := x24) (by kernel_rfl) (by rw [hb_2]; kernel_rfl) (by kernel_rfl) ?_
      refine ls_nil ?_
      refine then_normal ?_
      exact ⟨(fun i => ([x0, x20, x21, x22, x23, x24]).getD i undef), x24, by kernel_rfl, HA_2, H⟩
    · refine ls_skip (d := some 19) (by kernel_rfl) (by rw [hb_2]; kernel_rfl) ?_
      refine ls_skip (d := some 20) (by kernel_rfl) (by rw [hb_2]; kernel_rfl) ?_
      refine ls_fr (b := ⟨([x0, x1, undef, undef, x10, x0, x1, x7, x0, x1, x10, undef, undef, undef, undef, x0, x1, x17, x17, undef, undef, undef, undef, undef, undef, undef, undef, undef, undef, undef, undef, undef, undef, undef, undef, undef, undef, undef, undef, undef, undef, undef, undef, undef, undef, undef, undef, undef, undef, undef] ++ [undef, undef, undef, undef, undef, undef, undef, undef, undef, undef, undef, undef, undef, undef, undef, undef, undef, undef, undef, undef, undef, undef, undef, undef, undef, undef, undef, undef, undef, undef, undef, undef, undef, undef, undef, undef, undef, undef, undef, undef]).toArray, []⟩) (by kernel_rfl) ?_
      refine ls_skip (d := some 21) (by kernel_rfl) (by rw [hb_2]; kernel_rfl) ?_
      refine ls_skip (d := some 22) (by kernel_rfl) (by rw [hb_2]; kernel_rfl) ?_
      refine ls_skip (d := some 23) (by kernel_rfl) (by rw [hb_2]; kernel_rfl) ?_
      refine ls_skip (d := some 24) (by kernel_rfl) (by rw [hb_2]; kernel_rfl) ?_
      refine ls_pick_f (y := (.bool false)) (by kernel_rfl) (by rw [hb_2]; kernel_rfl) (by kernel_rfl) ?_
      refine ls_nil ?_
      refine then_normal ?_
      exact ⟨(fun i => ([undef, undef, undef, undef, undef, undef]).getD i undef), (.bool false), by kernel_rfl, HA_2, H⟩
    · rintro _ w_3 ⟨D, x25, rfl, HA_3, H⟩
      refine ls_move (x := x25) (by kernel_rfl) (by kernel_rfl) ?_
      refine ls_andh [(), (), ()] (fun K a w => ∃ (D_1 : Nat → Value) (x29 : Value) (h_3 : Heap), a = ⟨([x0, x1, undef, undef, x10, x0, x1, x7, x0, x1, x10, undef, undef, undef, undef, x0, x1, x17, x17, (D 0), (D 1), (D 2), (D 3), (D 4), (D 5), x25, x25, (D_1 0), (D_1 1), x29, undef, undef, undef, undef, undef, undef, undef, undef, undef, undef, undef, undef, undef, undef, undef, undef, undef, undef, undef, undef] ++ [undef, undef, undef, undef, undef, undef, undef, undef, undef, undef, undef, undef, undef, undef, undef, undef, undef, undef, undef, undef, undef, undef, undef, undef, undef, undef, undef, undef, undef, undef, undef, undef, undef, undef, undef, undef, undef, undef, undef, undef]).toArray, []⟩ ∧ At w0 w h_3 ∧ K x29 h_3) H (fun hb_1 H => ?_) (fun hb_1 H => ?_) ?_
      · refine ls_move (x := x0) (by rw [hb_1]; kernel_rfl) (by kernel_rfl) ?_
        refine ls_d (d := some 28) (by kernel_rfl) (by rw [hb_1]; kernel_rfl) HA_3 (d_call (by kernel_rfl) (by kernel_rfl) H) (fun x28 h_26 w_27 H HA_27 => ?_)
        refine ls_pick_t (x := x28) (by kernel_rfl) (by rw [hb_1]; kernel_rfl) (by kernel_rfl) ?_
        refine ls_nil ?_
        refine then_normal ?_
        exact ⟨(fun i => ([x0, x28]).getD i undef), x28, h_26, by kernel_rfl, HA_27, H⟩
      · refine ls_skip (d := some 27) (by kernel_rfl) (by rw [hb_1]; kernel_rfl) ?_
        refine ls_skip (d := some 28) (by kernel_rfl) (by rw [hb_1]; kernel_rfl) ?_
        refine ls_pick_f (y := (.bool false)) (by kernel_rfl) (by rw [hb_1]; kernel_rfl) (by kernel_rfl) ?_
        refine ls_nil ?_
        refine then_normal ?_
        exact ⟨(fun i => ([undef, undef]).getD i undef), (.bool false), h_2, by kernel_rfl, HA_3, H⟩
      · rintro _ w_4 ⟨D_1, x29, h_3, rfl, HA_4, H⟩
        refine ls_assign (x := x29) (by kernel_rfl) (by kernel_rfl) ?_
        refine ls_nil ?_
        refine then_normal ?_
        refine fr_eq (b := ⟨([x0, x1, undef, undef, x10, x0, x1, x7, x0, x1, x10, undef, undef, undef, x29, x0, x1, x17, x17, (D 0), (D 1), (D 2), (D 3), (D 4), (D 5), x25, x25, (D_1 0), (D_1 1), x29, undef, undef, undef, undef, undef, undef, undef, undef, undef, undef, undef, undef, undef, undef, undef, undef, undef, undef, undef, undef] ++ [undef, undef, undef, undef, undef, undef, undef, undef, undef, undef, undef, undef, undef, undef, undef, undef, undef, undef, undef, undef, undef, undef, undef, undef, undef, undef, undef, undef, undef, undef, undef, undef, undef, undef, undef, undef, undef, undef, undef, undef]).toArray, []⟩) (by kernel_rfl) ?_
        refine wp_if rfl H (fun H => ?_) (fun H => ?_)
        · refine lwp_list ?_
          refine ls_move (x := x0) (by kernel_rfl) (by kernel_rfl) ?_
          refine ls_d (d := some 31) (by kernel_rfl) (by kernel_rfl) HA_4 (d_call (by kernel_rfl) (by kernel_rfl) H) (fun x31 h_4 w_5 H HA_5 => ?_)
          refine ls_nil ?_
          refine block_normal ?_
          exact end0 (Try.results67) (by kernel_rfl) HA_5 H _ (.inl rfl)
        · refine wp_seq ?_
          refine lwp_list ?_
          refine ls_move (x := x0) (by kernel_rfl) (by kernel_rfl) ?_
          refine ls_move (x := x1) (by kernel_rfl) (by kernel_rfl) ?_
          refine ls_d (d := some 35) (by kernel_rfl) (by kernel_rfl) HA_4 (d_call (by kernel_rfl) (by kernel_rfl) H) (fun x35 h_5 w_6 H HA_6 => ?_)
          refine ls_assign (x := x35) (by kernel_rfl) (by kernel_rfl) ?_
          refine ls_nil ?_
          refine then_normal ?_
          refine fr_eq (b := ⟨([x0, x1, undef, undef, x10, x0, x1, x7, x0, x1, x10, undef, undef, undef, x29, x0, x1, x17, x17, (D 0), (D 1), (D 2), (D 3), (D 4), (D 5), x25, x25, (D_1 0), (D_1 1), x29, undef, undef, x35, x0, x1, x35, undef, undef, undef, undef, undef, undef, undef, undef, undef, undef, undef, undef, undef, undef] ++ [undef, undef, undef, undef, undef, undef, undef, undef, undef, undef, undef, undef, undef, undef, undef, undef, undef, undef, undef, undef, undef, undef, undef, undef, undef, undef, undef, undef, undef, undef, undef, undef, undef, undef, undef, undef, undef, undef, undef, undef]).toArray, []⟩) (by kernel_rfl) ?_
          refine wp_if rfl H (fun H => ?_) (fun H => ?_)
          · refine wp_seq ?_
            refine wp_seq ?_
            refine lwp_list ?_
            refine ls_move (x := x0) (by kernel_rfl) (by kernel_rfl) ?_
            refine ls_p (d := some 37) (by kernel_rfl) (by kernel_rfl) (p_nil (by kernel_rfl) H) (fun x37 H => ?_)
            refine ls_p (d := some 38) (by kernel_rfl) (by kernel_rfl) (p_off Try.underlying72 rfl (fun w => ⟨_, Try.sizeOf30 w⟩) rfl (by kernel_rfl) H) (fun x38 H => ?_)
            refine ls_y (d := some 39) (by kernel_rfl) (by kernel_rfl) HA_6 (y_ld Try.isAgg30 (by kernel_rfl) H) (fun x39 H => ?_)
            refine ls_p (d := some 40) (by kernel_rfl) (by kernel_rfl) (p_len Try.underlying30 (by kernel_rfl) H) (fun x40 H => ?_)
            refine ls_p (d := some 41) (by kernel_rfl) (by kernel_rfl) (p_sGt (by kernel_rfl) (by kernel_rfl) H) (fun x41 H => ?_)
            refine ls_nil ?_
            refine then_normal ?_
            refine fr_eq (b := ⟨([x0, x1, undef, undef, x10, x0, x1, x7, x0, x1, x10, undef, undef, undef, x29, x0, x1, x17, x17, (D 0), (D 1), (D 2), (D 3), (D 4), (D 5), x25, x25, (D_1 0), (D_1 1), x29, undef, undef, x35, x0, x1, x35, x0, x37, x38, x39, x40, x41, undef, undef, undef, undef, undef, undef, undef, undef] ++ [undef, undef, undef, undef, undef, undef, undef, undef, undef, undef, undef, undef, undef, undef, undef, undef, undef, undef, undef, undef, undef, undef, undef, undef, undef, undef, undef, undef, undef, undef, undef, undef, undef, undef, undef, undef, undef, undef, undef, undef]).toArray, []⟩) (by kernel_rfl) ?_
            refine wp_join (fun a w => ∃ (D_2 : Nat → Value) (h_6 : Heap), a = ⟨([x0, x1, undef, undef, x10, x0, x1, x7, x0, x1, x10, undef, undef, undef, x29, x0, x1, x17, x17, (D 0), (D 1), (D 2), (D 3), (D 4), (D 5), x25, x25, (D_1 0), (D_1 1), x29, undef, undef, x35, x0, x1, x35, x0, x37, x38, x39, x40, x41, (D_2 0), (D_2 1), undef, undef, undef, undef, undef, undef] ++ [undef, undef, undef, undef, undef, undef, undef, undef, undef, undef, undef, undef, undef, undef, undef, undef, undef, undef, undef, undef, undef, undef, undef, undef, undef, undef, undef, undef, undef, undef, undef, undef, undef, undef, undef, undef, undef, undef, undef, undef]).toArray, []⟩ ∧ At w0 w h_6 ∧ ldisc_Disc_edit_j1 R x0 x1 h_6) ?_ ?_
            · refine wp_if rfl H (fun H => ?_) (fun H => ?_)
              · refine lwp_list ?_
                refine ls_move (x := x0) (by kernel_rfl) (by kernel_rfl) ?_
                refine ls_d (d := some 43) (by kernel_rfl) (by kernel_rfl) HA_6 (d_call (by kernel_rfl) (by kernel_rfl) H) (fun x43 h_9 w_10 H HA_10 => ?_)
                refine ls_nil ?_
                exact ⟨(fun i => ([x0, x43]).getD i undef), h_9, by kernel_rfl, HA_10, H⟩
              · refine wp_skip ?_
                exact ⟨(fun i => ([undef, undef]).getD i undef), h_5, by kernel_rfl, HA_6, H⟩
            · rintro _ w_7 ⟨D_2, h_6, rfl, HA_7, H⟩
              unfold ldisc_Disc_edit_j1 at H
              refine then_normal ?_
              refine fr_eq (b := ⟨([x0, x1, undef, undef, x10, x0, x1, x7, x0, x1, x10, undef, undef, undef, x29, x0, x1, x17, x17, (D 0), (D 1), (D 2), (D 3), (D 4), (D 5), x25, x25, (D_1 0), (D_1 1), x29, undef, undef, x35, x0, x1, x35, x0, x37, x38, x39, x40, x41, (D_2 0), (D_2 1), undef, undef, undef, undef, undef, undef] ++ [undef, undef, undef, undef, undef, undef, undef, undef, undef, undef, undef, undef, undef, undef, undef, undef, undef, undef, undef, undef, undef, undef, undef, undef, undef, undef, undef, undef, undef, undef, undef, undef, undef, undef, undef, undef, undef, undef, undef, undef]).toArray, []⟩) (by kernel_rfl) ?_
              refine wp_seq ?_
              refine lwp_list ?_
              refine ls_move (x := x0) (by kernel_rfl) (by kernel_rfl) ?_
              refine ls_d (d := some 45) (by kernel_rfl) (by kernel_rfl) HA_7 (d_call (by kernel_rfl) (by kernel_rfl) H) (fun x45 h_7 w_8 H HA_8 => ?_)
              refine ls_p (d := some 46) (by kernel_rfl) (by kernel_rfl) (p_not (by kernel_rfl) H) (fun x46 H => ?_)
              refine ls_nil ?_
              refine then_normal ?_
              refine fr_eq (b := ⟨([x0, x1, undef, undef, x10, x0, x1, x7, x0, x1, x10, undef, undef, undef, x29, x0, x1, x17, x17, (D 0), (D 1), (D 2), (D 3), (D 4), (D 5), x25, x25, (D_1 0), (D_1 1), x29, undef, undef, x35, x0, x1, x35, x0, x37, x38, x39, x40, x41, (D_2 0), (D_2 1), x0, x45, x46, undef, undef, undef] ++ [undef, undef, undef, undef, undef, undef, undef, undef, undef, undef, undef, undef, undef, undef, undef, undef, undef, undef, undef, undef, undef, undef, undef, undef, undef, undef, undef, undef, undef, undef, undef, undef, undef, undef, undef, undef, undef, undef, undef, undef]).toArray, []⟩) (by kernel_rfl) ?_
              refine wp_if rfl H (fun H => ?_) (fun H => ?_)
              · refine lwp_list ?_
                refine ls_move (x := x0) (by kernel_rfl) (by kernel_rfl) ?_
                refine ls_move (x := x1) (by kernel_rfl) (by kernel_rfl) ?_
                refine ls_d (d := some 49) (by kernel_rfl) (by kernel_rfl) HA_8 (d_call (by kernel_rfl) (by kernel_rfl) H) (fun x49 h_8 w_9 H HA_9 => ?_)
                refine ls_nil ?_
                refine block_normal ?_
                exact end0 (Try.results67) (by kernel_rfl) HA_9 H _ (.inl rfl)
              · refine wp_skip ?_
                refine block_normal ?_
                exact end0 (Try.results67) (by kernel_rfl) HA_8 H _ (.inl rfl)
          · refine wp_seq ?_
            refine lwp_list ?_
            refine ls_move (x := x10) (by kernel_rfl) (by kernel_rfl) ?_
            refine ls_assign (x := x10) (by kernel_rfl) (by kernel_rfl) ?_
            refine ls_nil ?_
            refine then_normal ?_
            refine fr_eq (b := ⟨([x0, x1, undef, undef, x10, x0, x1, x7, x0, x1, x10, undef, undef, undef, x29, x0, x1, x17, x17, (D 0), (D 1), (D 2), (D 3), (D 4), (D 5), x25, x25, (D_1 0), (D_1 1), x29, undef, undef, x35, x0, x1, x35, undef, undef, undef, undef, undef, undef, undef, undef, undef, undef, undef, undef, undef, undef] ++ [x10, x10, undef, undef, undef, undef, undef, undef, undef, undef, undef, undef, undef, undef, undef, undef, undef, undef, undef, undef, undef, undef, undef, undef, undef, undef, undef, undef, undef, undef, undef, undef, undef, undef, undef, undef, undef, undef, undef, undef]).toArray, []⟩) (by kernel_rfl) ?_
            refine wp_if rfl H (fun H => ?_) (fun H => ?_)
            · refine wp_seq ?_
              refine lwp_list ?_
              refine ls_move (x := x0) (by kernel_rfl) (by kernel_rfl) ?_
              refine ls_d (d := some 53) (by kernel_rfl) (by kernel_rfl) HA_6 (d_call (by kernel_rfl) (by kernel_rfl) H) (fun x53 h_10 w_11 H HA_11 => ?_)
              refine ls_nil ?_
              refine then_normal ?_
              refine fr_eq (b := ⟨([x0, x1, undef, undef, x10, x0, x1, x7, x0, x1, x10, undef, undef, undef, x29, x0, x1, x17, x17, (D 0), (D 1), (D 2), (D 3), (D 4), (D 5), x25, x25, (D_1 0), (D_1 1), x29, undef, undef, x35, x0, x1, x35, undef, undef, undef, undef, undef, undef, undef, undef, undef, undef, undef, undef, undef, undef] ++ [x10, x10, x0, x53, undef, undef, undef, undef, undef, undef, undef, undef, undef, undef, undef, undef, undef, undef, undef, undef, undef, undef, undef, undef, undef, undef, undef, undef, undef, undef, undef, undef, undef, undef, undef, undef, undef, undef, undef, undef]).toArray, []⟩) (by kernel_rfl) ?_
              refine wp_seq ?_
              refine wp_seq ?_
              refine lwp_list ?_
              refine ls_move (x := x0) (by kernel_rfl) (by kernel_rfl) ?_
              refine ls_d (d := some 55) (by kernel_rfl) (by kernel_rfl) HA_11 (d_call (by kernel_rfl) (by kernel_rfl) H) (fun x55 h_11 w_12 H HA_12 => ?_)
              refine ls_p (d := some 56) (by kernel_rfl) (by kernel_rfl) (p_not (by kernel_rfl) H) (fun x56 H => ?_)
              refine ls_nil ?_
              refine then_normal ?_
              refine fr_eq (b := ⟨([x0, x1, undef, undef, x10, x0, x1, x7, x0, x1, x10, undef, undef, undef, x29, x0, x1, x17, x17, (D 0), (D 1), (D 2), (D 3), (D 4), (D 5), x25, x25, (D_1 0), (D_1 1), x29, undef, undef, x35, x0, x1, x35, undef, undef, undef, undef, undef, undef, undef, undef, undef, undef, undef, undef, undef, undef] ++ [x10, x10, x0, x53, x0, x55, x56, undef, undef, undef, undef, undef, undef, undef, undef, undef, undef, undef, undef, undef, undef, undef, undef, undef, undef, undef, undef, undef, undef, undef, undef, undef, undef, undef, undef, undef, undef, undef, undef, undef]).toArray, []⟩) (by kernel_rfl) ?_
              refine wp_join (fun a w => ∃ (D_3 : Nat → Value) (h_12 : Heap), a = ⟨([x0, x1, undef, undef, x10, x0, x1, x7, x0, x1, x10, undef, undef, undef, x29, x0, x1, x17, x17, (D 0), (D 1), (D 2), (D 3), (D 4), (D 5), x25, x25, (D_1 0), (D_1 1), x29, undef, undef, x35, x0, x1, x35, undef, undef, undef, undef, undef, undef, undef, undef, undef, undef, undef, undef, undef, undef] ++ [x10, x10, x0, x53, x0, x55, x56, (D_3 0), (D_3 1), (D_3 2), undef, undef, undef, undef, undef, undef, undef, undef, undef, undef, undef, undef, undef, undef, undef, undef, undef, undef, undef, undef, undef, undef, undef, undef, undef, undef, undef, undef, undef, undef]).toArray, []⟩ ∧ At w0 w h_12 ∧ ldisc_Disc_edit_j2 R x0 h_12) ?_ ?_
              · refine wp_if rfl H (fun H => ?_) (fun H => ?_)
                · refine lwp_list ?_
                  refine ls_move (x := x0) (by kernel_rfl) (by kernel_rfl) ?_
                  refine ls_move (x := x1) (by kernel_rfl) (by kernel_rfl) ?_
                  refine ls_d (d := some 59) (by kernel_rfl) (by kernel_rfl) HA_12 (d_call (by kernel_rfl) (by kernel_rfl) H) (fun x59 h_19 w_20 H HA_20 => ?_)
                  refine ls_nil ?_
                  exact ⟨(fun i => ([x0, x1, x59]).getD i undef), h_19, by kernel_rfl, HA_20, H⟩
                · refine wp_skip ?_
                  exact ⟨(fun i => ([undef, undef, undef]).getD i undef), h_11, by kernel_rfl, HA_12, H⟩
              · rintro _ w_13 ⟨D_3, h_12, rfl, HA_13, H⟩
                unfold ldisc_Disc_edit_j2 at H
                refine then_normal ?_
                refine fr_eq (b := ⟨([x0, x1, undef, undef, x10, x0, x1, x7, x0, x1, x10, undef, undef, undef, x29, x0, x1, x17, x17, (D 0), (D 1), (D 2), (D 3), (D 4), (D 5), x25, x25, (D_1 0), (D_1 1), x29, undef, undef, x35, x0, x1, x35, undef, undef, undef, undef, undef, undef, undef, undef, undef, undef, undef, undef, undef, undef] ++ [x10, x10, x0, x53, x0, x55, x56, (D_3 0), (D_3 1), (D_3 2), undef, undef, undef, undef, undef, undef, undef, undef, undef, undef, undef, undef, undef, undef, undef, undef, undef, undef, undef, undef, undef, undef, undef, undef, undef, undef, undef, undef, undef, undef]).toArray, []⟩) (by kernel_rfl) ?_
                refine wp_seq ?_
                refine lwp_list ?_
                refine ls_move (x := x0) (by kernel_rfl) (by kernel_rfl) ?_
                refine ls_d (d := some 61) (by kernel_rfl) (by kernel_rfl) HA_13 (d_call (by kernel_rfl) (by kernel_rfl) H) (fun x61 h_13 w_14 H HA_14 => ?_)
                refine ls_move (x := x61) (by kernel_rfl) (by kernel_rfl) ?_
                refine ls_andh [(), (), ()] (fun K a w => ∃ (D_4 : Nat → Value) (x65 : Value) (h_14 : Heap), a = ⟨([x0, x1, undef, undef, x10, x0, x1, x7, x0, x1, x10, undef, undef, undef, x29, x0, x1, x17, x17, (D 0), (D 1), (D 2), (D 3), (D 4), (D 5), x25, x25, (D_1 0), (D_1 1), x29, undef, undef, x35, x0, x1, x35, undef, undef, undef, undef, undef, undef, undef, undef, undef, undef, undef, undef, undef, undef] ++ [x10, x10, x0, x53, x0, x55, x56, (D_3 0), (D_3 1), (D_3 2), x0, x61, x61, (D_4 0), (D_4 1), x65, undef, undef, undef, undef, undef, undef, undef, undef, undef, undef, undef, undef, undef, undef, undef, undef, undef, undef, undef, undef, undef, undef, undef, undef]).toArray, []⟩ ∧ At w0 w h_14 ∧ K x65 h_14) H (fun hb H => ?_) (fun hb H => ?_) ?_
                · refine ls_move (x := x0) (by rw [hb]; kernel_rfl) (by kernel_rfl) ?_
                  refine ls_d (d := some 64) (by kernel_rfl) (by rw [hb]; kernel_rfl) HA_14 (d_call (by kernel_rfl) (by kernel_rfl) H) (fun x64 h_18 w_19 H HA_19 => ?_)
                  refine ls_pick_t (x := x64) (by kernel_rfl) (by rw [hb]; kernel_rfl) (by kernel_rfl) ?_
                  refine ls_nil ?_
                  refine then_normal ?_
                  exact ⟨(fun i => ([x0, x64]).getD i undef), x64, h_18, by kernel_rfl, HA_19, H⟩
                · refine ls_skip (d := some 63) (by kernel_rfl) (by rw [hb]; kernel_rfl) ?_
                  refine ls_skip (d := some 64) (by kernel_rfl) (by rw [hb]; kernel_rfl) ?_
                  refine ls_pick_f (y := (.bool false)) (by kernel_rfl) (by rw [hb]; kernel_rfl) (by kernel_rfl) ?_
                  refine ls_nil ?_
                  refine then_normal ?_
                  exact ⟨(fun i => ([undef, undef]).getD i undef), (.bool false), h_13, by kernel_rfl, HA_14, H⟩
                · rintro _ w_15 ⟨D_4, x65, h_14, rfl, HA_15, H⟩
                  refine ls_nil ?_
                  refine then_normal ?_
                  refine fr_eq (b := ⟨([x0, x1, undef, undef, x10, x0, x1, x7, x0, x1, x10, undef, undef, undef, x29, x0, x1, x17, x17, (D 0), (D 1), (D 2), (D 3), (D 4), (D 5), x25, x25, (D_1 0), (D_1 1), x29, undef, undef, x35, x0, x1, x35, undef, undef, undef, undef, undef, undef, undef, undef, undef, undef, undef, undef, undef, undef] ++ [x10, x10, x0, x53, x0, x55, x56, (D_3 0), (D_3 1), (D_3 2), x0, x61, x61, (D_4 0), (D_4 1), x65, undef, undef, undef, undef, undef, undef, undef, undef, undef, undef, undef, undef, undef, undef, undef, undef, undef, undef, undef, undef, undef, undef, undef, undef]).toArray, []⟩) (by kernel_rfl) ?_
                  refine wp_if rfl H (fun H => ?_) (fun H => ?_)
                  · refine lwp_list ?_
                    refine ls_move (x := x0) (by kernel_rfl) (by kernel_rfl) ?_
                    refine ls_move (x := x0) (by kernel_rfl) (by kernel_rfl) ?_
                    refine ls_p (d := some 68) (by kernel_rfl) (by kernel_rfl) (p_nil (by kernel_rfl) H) (fun x68 H => ?_)
                    refine ls_p (d := some 69) (by kernel_rfl) (by kernel_rfl) (p_off Try.underlying72 rfl (fun w => ⟨_, Try.sizeOf30 w⟩) rfl (by kernel_rfl) H) (fun x69 H => ?_)
                    refine ls_y (d := some 70) (by kernel_rfl) (by kernel_rfl) HA_15 (y_ld Try.isAgg30 (by kernel_rfl) H) (fun x70 H => ?_)
                    refine ls_d (d := some 71) (by kernel_rfl) (by kernel_rfl) HA_15 (d_slit (zc := #[.int .u8 0]) Try.underlying30 Try.sizeOf5 (by decide) (.inr ⟨by decide, _, Try.zeroValue5, (by kernel_rfl)⟩) (by kernel_rfl) (by kernel_rfl) H) (fun x71 h_15 w_16 H HA_16 => ?_)
                    refine ls_fr (b := ⟨([x0, x1, undef, undef, x10, x0, x1, x7, x0, x1, x10, undef, undef, undef, x29, x0, x1, x17, x17, (D 0), (D 1), (D 2), (D 3), (D 4), (D 5), x25, x25, (D_1 0), (D_1 1), x29, undef, undef, x35, x0, x1, x35, undef, undef, undef, undef, undef, undef, undef, undef, undef, undef, undef, undef, undef, undef] ++ [x10, x10, x0, x53, x0, x55, x56, (D_3 0), (D_3 1), (D_3 2), x0, x61, x61, (D_4 0), (D_4 1), x65, x0, x0, x68, x69, x70, x71, undef, undef, undef, undef, undef, undef, undef, undef, undef, undef, undef, undef, undef, undef, undef, undef, undef, undef]).toArray, []⟩) (by kernel_rfl) ?_
                    refine ls_d (d := some 72) (by kernel_rfl) (by kernel_rfl) HA_16 (d_app (z := #[.int .u8 0]) Try.underlying30 Try.underlying30 (.inl ⟨_, rfl⟩) Try.typeInfo5 (by kernel_rfl) Try.sizeOf5 Try.zeroValue5 (by kernel_rfl) (by kernel_rfl) (by kernel_rfl) H) (fun x72 h_16 w_17 H HA_17 => ?_)
                    refine ls_p (d := some 73) (by kernel_rfl) (by kernel_rfl) (p_nil (by kernel_rfl) H) (fun x73 H => ?_)
                    refine ls_p (d := some 74) (by kernel_rfl) (by kernel_rfl) (p_off Try.underlying72 rfl (fun w => ⟨_, Try.sizeOf30 w⟩) rfl (by kernel_rfl) H) (fun x74 H => ?_)
                    refine ls_d (d := none) (by kernel_rfl) (by kernel_rfl) HA_17 (d_st Try.sizeOf30 (by kernel_rfl) (by kernel_rfl) H) (fun _ h_17 w_18 H HA_18 => ?_)
                    refine ls_nil ?_
                    refine block_normal ?_
                    exact end0 (Try.results67) (by kernel_rfl) HA_18 H _ (.inl rfl)
                  · refine wp_skip ?_
                    refine block_normal ?_
                    exact end0 (Try.results67) (by kernel_rfl) HA_15 H _ (.inl rfl)
            · refine wp_seq ?_
              refine lwp_list ?_
              refine ls_move (x := x0) (by kernel_rfl) (by kernel_rfl) ?_
              refine ls_move (x := x1) (by kernel_rfl) (by kernel_rfl) ?_
              refine ls_d (d := some 78) (by kernel_rfl) (by kernel_rfl) HA_6 (d_call (by kernel_rfl) (by kernel_rfl) H) (fun x78 h_20 w_21 H HA_21 => ?_)
              refine ls_assign (x := x78) (by kernel_rfl) (by kernel_rfl) ?_
              refine ls_nil ?_
              refine then_normal ?_
              refine fr_eq (b := ⟨([x0, x1, undef, undef, x10, x0, x1, x7, x0, x1, x10, undef, undef, undef, x29, x0, x1, x17, x17, (D 0), (D 1), (D 2), (D 3), (D 4), (D 5), x25, x25, (D_1 0), (D_1 1), x29, undef, undef, x35, x0, x1, x35, undef, undef, undef, undef, undef, undef, undef, undef, undef, undef, undef, undef, undef, undef] ++ [x10, x10, undef, undef, undef, undef, undef, undef, undef, undef, undef, undef, undef, undef, undef, undef, undef, undef, undef, undef, undef, undef, undef, undef, undef, x78, x0, x1, x78, undef, undef, undef, undef, undef, undef, undef, undef, undef, undef, undef]).toArray, []⟩) (by kernel_rfl) ?_
              refine wp_if rfl H (fun H => ?_) (fun H => ?_)
              · refine lwp_list ?_
                refine ls_move (x := x0) (by kernel_rfl) (by kernel_rfl) ?_
                refine ls_d (d := some 80) (by kernel_rfl) (by kernel_rfl) HA_21 (d_call (by kernel_rfl) (by kernel_rfl) H) (fun x80 h_21 w_22 H HA_22 => ?_)
                refine ls_nil ?_
                refine block_normal ?_
                exact end0 (Try.results67) (by kernel_rfl) HA_22 H _ (.inl rfl)
              · refine wp_seq ?_
                refine lwp_list ?_
                refine ls_move (x := x0) (by kernel_rfl) (by kernel_rfl) ?_
                refine ls_move (x := x1) (by kernel_rfl) (by kernel_rfl) ?_
                refine ls_d (d := some 84) (by kernel_rfl) (by kernel_rfl) HA_21 (d_call (by kernel_rfl) (by kernel_rfl) H) (fun x84 h_22 w_23 H HA_23 => ?_)
                refine ls_assign (x := x84) (by kernel_rfl) (by kernel_rfl) ?_
                refine ls_nil ?_
                refine then_normal ?_
                refine fr_eq (b := ⟨([x0, x1, undef, undef, x10, x0, x1, x7, x0, x1, x10, undef, undef, undef, x29, x0, x1, x17, x17, (D 0), (D 1), (D 2), (D 3), (D 4), (D 5), x25, x25, (D_1 0), (D_1 1), x29, undef, undef, x35, x0, x1, x35, undef, undef, undef, undef, undef, undef, undef, undef, undef, undef, undef, undef, undef, undef] ++ [x10, x10, undef, undef, undef, undef, undef, undef, undef, undef, undef, undef, undef, undef, undef, undef, undef, undef, undef, undef, undef, undef, undef, undef, undef, x78, x0, x1, x78, undef, undef, x84, x0, x1, x84, undef, undef, undef, undef, undef]).toArray, []⟩) (by kernel_rfl) ?_
                refine wp_if rfl H (fun H => ?_) (fun H => ?_)
                · refine wp_seq ?_
                  refine lwp_list ?_
                  refine ls_move (x := x0) (by kernel_rfl) (by kernel_rfl) ?_
                  refine ls_move (x := x1) (by kernel_rfl) (by kernel_rfl) ?_
                  refine ls_d (d := some 87) (by kernel_rfl) (by kernel_rfl) HA_23 (d_call (by kernel_rfl) (by kernel_rfl) H) (fun x87 h_23 w_24 H HA_24 => ?_)
                  refine ls_nil ?_
                  refine then_normal ?_
                  refine fr_eq (b := ⟨([x0, x1, undef, undef, x10, x0, x1, x7, x0, x1, x10, undef, undef, undef, x29, x0, x1, x17, x17, (D 0), (D 1), (D 2), (D 3), (D 4), (D 5), x25, x25, (D_1 0), (D_1 1), x29, undef, undef, x35, x0, x1, x35, undef, undef, undef, undef, undef, undef, undef, undef, undef, undef, undef, undef, undef, undef] ++ [x10, x10, undef, undef, undef, undef, undef, undef, undef, undef, undef, undef, undef, undef, undef, undef, undef, undef, undef, undef, undef, undef, undef, undef, undef, x78, x0, x1, x78, undef, undef, x84, x0, x1, x84, x0, x1, x87, undef, undef]).toArray, []⟩) (by kernel_rfl) ?_
                  refine wp_if rfl H (fun H => ?_) (fun H => ?_)
                  · refine lwp_list ?_
                    refine ls_move (x := x0) (by kernel_rfl) (by kernel_rfl) ?_
                    refine ls_d (d := some 89) (by kernel_rfl) (by kernel_rfl) HA_24 (d_call (by kernel_rfl) (by kernel_rfl) H) (fun x89 h_24 w_25 H HA_25 => ?_)
                    refine ls_nil ?_
                    refine block_normal ?_
                    exact end0 (Try.results67) (by kernel_rfl) HA_25 H _ (.inl rfl)
                  · refine wp_skip ?_
                    refine block_normal ?_
                    exact end0 (Try.results67) (by kernel_rfl) HA_24 H _ (.inl rfl)
                · refine lwp_list ?_
                  refine ls_move (x := x0) (by kernel_rfl) (by kernel_rfl) ?_
                  refine ls_move (x := x1) (by kernel_rfl) (by kernel_rfl) ?_
                  refine ls_d (d := some 13) (by kernel_rfl) (by kernel_rfl) HA_23 (d_call (by kernel_rfl) (by kernel_rfl) H) (fun x13 h_25 w_26 H HA_26 => ?_)
                  refine ls_nil ?_
                  refine block_normal ?_
                  exact end0 (Try.results67) (by kernel_rfl) HA_26 H _ (.inl rfl)

end Go.Proofs.Ytlcklnbgknhhkaa

end

section
/- The shallow reading of one function, and that the function does it. Written by a program. -/
set_option linter.unusedVariables false
namespace Go.Proofs.Ytlcklnbgknhhkaa
open Go Go.HW

def ldisc_Disc_edit_1_S (x0 : Value) (h : Heap) (R : Value → Heap → Prop) : Prop :=
  R (.bool true) h
set_option maxRecDepth 100000 in
theorem ldisc_Disc_edit_1_runs {x0 : Value} {h : Heap} {R : Value → Heap → Prop} (H : ldisc_Disc_edit_1_S x0 h R) : ldisc_Disc_edit_1_c x0 h R := by
  unfold ldisc_Disc_edit_1_S at H
  refine runs_of (b := ⟨#[x0, undef, undef], []⟩) Try.call82 Try.func82 rfl (by kernel_rfl) (fun w0 HA => ?_)
  refine wp_seq ?_
  refine lwp_list ?_
  refine ls_assign (x := (.bool false)) (by kernel_rfl) (by kernel_rfl) ?_
  refine ls_nil ?_
  refine then_normal ?_
  refine fr_eq (b := ⟨#[x0, undef, (.bool false)], []⟩) (by kernel_rfl) ?_
  refine wp_seq ?_
  refine lwp_list ?_
  refine ls_assign (x := (.bool true)) (by kernel_rfl) (by kernel_rfl) ?_
  refine ls_nil ?_
  refine then_normal ?_
  refine fr_eq (b := ⟨#[x0, undef, (.bool true)], []⟩) (by kernel_rfl) ?_
  refine wp_ret ?_
  exact end1 (Try.results82) (by kernel_rfl) (by kernel_rfl) HA H _ (.inr rfl)

end Go.Proofs.Ytlcklnbgknhhkaa

end

section
/- The shallow reading of one function, and that the function does it. Written by a program. -/
set_option linter.unusedVariables false
namespace Go.Proofs.Ytlcklnbgknhhkaa
open Go Go.HW

def ldisc_Disc_signal_S (x0 x1 : Value) (h : Heap) (R : Value → Heap → Prop) : Prop :=
  ldisc_Disc_local_c x0 (.int .i64 64) h fun x7 h => 
  sNot x7 fun x8 =>
  sIf x8 (R (.int .i64 0) h) (ldisc_Disc_is_c x0 (.int .i64 0) x1 h fun x12 h_1 => 
  sIf x12 (R (.int .i64 1) h_1) (ldisc_Disc_is_c x0 (.int .i64 1) x1 h_1 fun x16 h_2 => 
  sIf x16 (R (.int .i64 2) h_2) (ldisc_Disc_is_c x0 (.int .i64 2) x1 h_2 fun x20 h_3 => 
  sIf x20 (R (.int .i64 3) h_3) (R (.int .i64 0) h_3))))
set_option maxRecDepth 100000 in
theorem ldisc_Disc_signal_runs {x0 x1 : Value} {h : Heap} {R : Value → Heap → Prop} (H : ldisc_Disc_signal_S x0 x1 h R) : ldisc_Disc_signal_c x0 x1 h R := by
  unfold ldisc_Disc_signal_S at H
  refine runs_of (b := ⟨#[x0, x1, undef, undef, undef, undef, undef, undef, undef, undef, undef, undef, undef, undef, undef, undef, undef, undef, undef, undef, undef], []⟩) Try.call65 Try.func65 rfl (by kernel_rfl) (fun w0 HA => ?_)
  refine wp_seq ?_
  refine lwp_list ?_
  refine ls_assign (x := (.int .i64 0)) (by kernel_rfl) (by kernel_rfl) ?_
  refine ls_nil ?_
  refine then_normal ?_
  refine fr_eq (b := ⟨#[x0, x1, undef, undef, (.int .i64 0), undef, undef, undef, undef, undef, undef, undef, undef, undef, undef, undef, undef, undef, undef, undef, undef], []⟩) (by kernel_rfl) ?_
  refine wp_seq ?_
  refine wp_block ?_
  refine wp_seq ?_
  refine lwp_list ?_
  refine ls_move (x := x0) (by kernel_rfl) (by kernel_rfl) ?_
  refine ls_d (d := some 7) (by kernel_rfl) (by kernel_rfl) HA (d_call (by kernel_rfl) (by kernel_rfl) H) (fun x7 h w H HA => ?_)
  refine ls_p (d := some 8) (by kernel_rfl) (by kernel_rfl) (p_not (by kernel_rfl) H) (fun x8 H => ?_)
  refine ls_assign (x := x8) (by kernel_rfl) (by kernel_rfl) ?_
  refine ls_nil ?_
  refine then_normal ?_
  refine fr_eq (b := ⟨#[x0, x1, undef, undef, (.int .i64 0), x8, x0, x7, x8, undef, undef, undef, undef, undef, undef, undef, undef, undef, undef, undef, undef], []⟩) (by kernel_rfl) ?_
  refine wp_if rfl H (fun H => ?_) (fun H => ?_)
  · refine wp_seq ?_
    refine lwp_list ?_
    refine ls_assign (x := (.int .i64 0)) (by kernel_rfl) (by kernel_rfl) ?_
    refine ls_nil ?_
    refine then_normal ?_
    refine fr_eq (b := ⟨#[x0, x1, undef, undef, (.int .i64 0), x8, x0, x7, x8, undef, undef, undef, undef, undef, undef, undef, undef, undef, undef, undef, undef], []⟩) (by kernel_rfl) ?_
    refine wp_ret ?_
    refine block_ret ?_
    refine then_ret ?_
    exact end1 (Try.results65) (by kernel_rfl) (by kernel_rfl) HA H _ (.inr rfl)
  · refine wp_seq ?_
    refine lwp_list ?_
    refine ls_move (x := x0) (by kernel_rfl) (by kernel_rfl) ?_
    refine ls_move (x := x1) (by kernel_rfl) (by kernel_rfl) ?_
    refine ls_d (d := some 12) (by kernel_rfl) (by kernel_rfl) HA (d_call (by kernel_rfl) (by kernel_rfl) H) (fun x12 h_1 w_1 H HA_1 => ?_)
    refine ls_assign (x := x12) (by kernel_rfl) (by kernel_rfl) ?_
    refine ls_nil ?_
    refine then_normal ?_
    refine fr_eq (b := ⟨#[x0, x1, undef, undef, (.int .i64 0), x8, x0, x7, x8, x12, x0, x1, x12, undef, undef, undef, undef, undef, undef, undef, undef], []⟩) (by kernel_rfl) ?_
    refine wp_if rfl H (fun H => ?_) (fun H => ?_)
    · refine wp_seq ?_
      refine lwp_list ?_
      refine ls_assign (x := (.int .i64 1)) (by kernel_rfl) (by kernel_rfl) ?_
      refine ls_nil ?_
      refine then_normal ?_
      refine fr_eq (b := ⟨#[x0, x1, undef, undef, (.int .i64 1), x8, x0, x7, x8, x12, x0, x1, x12, undef, undef, undef, undef, undef, undef, undef, undef], []⟩) (by kernel_rfl) ?_
      refine wp_ret ?_
      refine block_ret ?_
      refine then_ret ?_
      exact end1 (Try.results65) (by kernel_rfl) (by kernel_rfl) HA_1 H _ (.inr rfl)
    · refine wp_seq ?_
      refine lwp_list ?_
      refine ls_move (x := x0) (by kernel_rfl) (by kernel_rfl) ?_
      refine ls_move (x := x1) (by kernel_rfl) (by kernel_rfl) ?_
      refine ls_d (d := some 16) (by kernel_rfl) (by kernel_rfl) HA_1 (d_call (by kernel_rfl) (by kernel_rfl) H) (fun x16 h_2 w_2 H HA_2 => ?_)
      refine ls_assign (x := x16) (by kernel_rfl) (by kernel_rfl) ?_
      refine ls_nil ?_
      refine then_normal ?_
      refine fr_eq (b := ⟨#[x0, x1, undef, undef, (.int .i64 0), x8, x0, x7, x8, x12, x0, x1, x12, x16, x0, x1, x16, undef, undef, undef, undef], []⟩) (by kernel_rfl) ?_
      refine wp_if rfl H (fun H => ?_) (fun H => ?_)
      · refine wp_seq ?_
        refine lwp_list ?_
        refine ls_assign (x := (.int .i64 2)) (by kernel_rfl) (by kernel_rfl) ?_
        refine ls_nil ?_
        refine then_normal ?_
        refine fr_eq (b := ⟨#[x0, x1, undef, undef, (.int .i64 2), x8, x0, x7, x8, x12, x0, x1, x12, x16, x0, x1, x16, undef, undef, undef, undef], []⟩) (by kernel_rfl) ?_
        refine wp_ret ?_
        refine block_ret ?_
        refine then_ret ?_
        exact end1 (Try.results65) (by kernel_rfl) (by kernel_rfl) HA_2 H _ (.inr rfl)
      · refine wp_seq ?_
        refine lwp_list ?_
        refine ls_move (x := x0) (by kernel_rfl) (by kernel_rfl) ?_
        refine ls_move (x := x1) (by kernel_rfl) (by kernel_rfl) ?_
        refine ls_d (d := some 20) (by kernel_rfl) (by kernel_rfl) HA_2 (d_call (by kernel_rfl) (by kernel_rfl) H) (fun x20 h_3 w_3 H HA_3 => ?_)
        refine ls_assign (x := x20) (by kernel_rfl) (by kernel_rfl) ?_
        refine ls_nil ?_
        refine then_normal ?_
        refine fr_eq (b := ⟨#[x0, x1, undef, undef, (.int .i64 0), x8, x0, x7, x8, x12, x0, x1, x12, x16, x0, x1, x16, x20, x0, x1, x20], []⟩) (by kernel_rfl) ?_
        refine wp_if rfl H (fun H => ?_) (fun H => ?_)
        · refine wp_seq ?_
          refine lwp_list ?_
          refine ls_assign (x := (.int .i64 3)) (by kernel_rfl) (by kernel_rfl) ?_
          refine ls_nil ?_
          refine then_normal ?_
          refine fr_eq (b := ⟨#[x0, x1, undef, undef, (.int .i64 3), x8, x0, x7, x8, x12, x0, x1, x12, x16, x0, x1, x16, x20, x0, x1, x20], []⟩) (by kernel_rfl) ?_
          refine wp_ret ?_
          refine block_ret ?_
          refine then_ret ?_
          exact end1 (Try.results65) (by kernel_rfl) (by kernel_rfl) HA_3 H _ (.inr rfl)
        · refine wp_skip ?_
          refine block_normal ?_
          refine then_normal ?_
          refine fr_eq (b := ⟨#[x0, x1, undef, undef, (.int .i64 0), x8, x0, x7, x8, x12, x0, x1, x12, x16, x0, x1, x16, x20, x0, x1, x20], []⟩) (by kernel_rfl) ?_
          refine wp_seq ?_
          refine lwp_list ?_
          refine ls_assign (x := (.int .i64 0)) (by kernel_rfl) (by kernel_rfl) ?_
          refine ls_nil ?_
          refine then_normal ?_
          refine fr_eq (b := ⟨#[x0, x1, undef, undef, (.int .i64 0), x8, x0, x7, x8, x12, x0, x1, x12, x16, x0, x1, x16, x20, x0, x1, x20], []⟩) (by kernel_rfl) ?_
          refine wp_ret ?_
          exact end1 (Try.results65) (by kernel_rfl) (by kernel_rfl) HA_3 H _ (.inr rfl)

end Go.Proofs.Ytlcklnbgknhhkaa

end

section
/- The shallow reading of one function, and that the function does it. Written by a program. -/
set_option linter.unusedVariables false
namespace Go.Proofs.Ytlcklnbgknhhkaa
open Go Go.HW

def ldisc_Disc_flow_j1 (R : Value → Heap → Prop) (h_6 : Heap) : Prop :=
  R (.bool false) h_6
def ldisc_Disc_flow_S (x0 x1 : Value) (h : Heap) (R : Value → Heap → Prop) : Prop :=
  ldisc_Disc_in_c x0 (.int .i64 16) h fun x7 h => 
  sNot x7 fun x8 =>
  sIf x8 (R (.bool false) h) (ldisc_Disc_is_c x0 (.int .i64 11) x1 h fun x12 h_1 => 
  sIf x12 (sNil x0 fun x14 =>
  sOff x14 20 fun x15 =>
  sSt h_1 x15 (.bool true) fun h_2 => 
  R (.bool true) h_2) (ldisc_Disc_is_c x0 (.int .i64 10) x1 h_1 fun x19 h_3 => 
  sIf x19 (sNil x0 fun x21 =>
  sOff x21 20 fun x22 =>
  sSt h_3 x22 (.bool false) fun h_4 => 
  R (.bool true) h_4) (ldisc_Disc_in_c x0 (.int .i64 32) h_3 fun x24 h_5 => 
  sIf x24 (sNil x0 fun x26 =>
  sOff x26 20 fun x27 =>
  sSt h_5 x27 (.bool false) fun h_7 => 
  ldisc_Disc_flow_j1 R h_7) (ldisc_Disc_flow_j1 R h_5))))
set_option maxRecDepth 100000 in
theorem ldisc_Disc_flow_runs {x0 x1 : Value} {h : Heap} {R : Value → Heap → Prop} (H : ldisc_Disc_flow_S x0 x1 h R) : ldisc_Disc_flow_c x0 x1 h R := by
  unfold ldisc_Disc_flow_S at H
  refine runs_of (b := ⟨#[x0, x1, undef, undef, undef, undef, undef, undef, undef, undef, undef, undef, undef, undef, undef, undef, undef, undef, undef, undef, undef, undef, undef, undef, undef, undef, undef, undef], []⟩) Try.call64 Try.func64 rfl (by kernel_rfl) (fun w0 HA => ?_)
  refine wp_seq ?_
  refine lwp_list ?_
  refine ls_assign (x := (.bool false)) (by kernel_rfl) (by kernel_rfl) ?_
  refine ls_nil ?_
  refine then_normal ?_
  refine fr_eq (b := ⟨#[x0, x1, undef, undef, (.bool false), undef, undef, undef, undef, undef, undef, undef, undef, undef, undef, undef, undef, undef, undef, undef, undef, undef, undef, undef, undef, undef, undef, undef], []⟩) (by kernel_rfl) ?_
  refine wp_seq ?_
  refine wp_block ?_
  refine wp_seq ?_
  refine lwp_list ?_
  refine ls_move (x := x0) (by kernel_rfl) (by kernel_rfl) ?_
  refine ls_d (d := some 7) (by kernel_rfl) (by kernel_rfl) HA (d_call (by kernel_rfl) (by kernel_rfl) H) (fun x7 h w H HA => ?_)
  refine ls_p (d := some 8) (by kernel_rfl) (by kernel_rfl) (p_not (by kernel_rfl) H) (fun x8 H => ?_)
  refine ls_assign (x := x8) (by kernel_rfl) (by kernel_rfl) ?_
  refine ls_nil ?_
  refine then_normal ?_
  refine fr_eq (b := ⟨#[x0, x1, undef, undef, (.bool false), x8, x0, x7, x8, undef, undef, undef, undef, undef, undef, undef, undef, undef, undef, undef, undef, undef, undef, undef, undef, undef, undef, undef], []⟩) (by kernel_rfl) ?_
  refine wp_if rfl H (fun H => ?_) (fun H => ?_)
  · refine wp_seq ?_
    refine lwp_list ?_
    refine ls_assign (x := (.bool false)) (by kernel_rfl) (by kernel_rfl) ?_
    refine ls_nil ?_
    refine then_normal ?_
    refine fr_eq (b := ⟨#[x0, x1, undef, undef, (.bool false), x8, x0, x7, x8, undef, undef, undef, undef, undef, undef, undef, undef, undef, undef, undef, undef, undef, undef, undef, undef, undef, undef, undef], []⟩) (by kernel_rfl) ?_
    refine wp_ret ?_
    refine block_ret ?_
    refine then_ret ?_
    exact end1 (Try.results64) (by kernel_rfl) (by kernel_rfl) HA H _ (.inr rfl)
  · refine wp_seq ?_
    refine lwp_list ?_
    refine ls_move (x := x0) (by kernel_rfl) (by kernel_rfl) ?_
    refine ls_move (x := x1) (by kernel_rfl) (by kernel_rfl) ?_
    refine ls_d (d := some 12) (by kernel_rfl) (by kernel_rfl) HA (d_call (by kernel_rfl) (by kernel_rfl) H) (fun x12 h_1 w_1 H HA_1 => ?_)
    refine ls_assign (x := x12) (by kernel_rfl) (by kernel_rfl) ?_
    refine ls_nil ?_
    refine then_normal ?_
    refine fr_eq (b := ⟨#[x0, x1, undef, undef, (.bool false), x8, x0, x7, x8, x12, x0, x1, x12, undef, undef, undef, undef, undef, undef, undef, undef, undef, undef, undef, undef, undef, undef, undef], []⟩) (by kernel_rfl) ?_
    refine wp_if rfl H (fun H => ?_) (fun H => ?_)
    · refine wp_seq ?_
      refine lwp_list ?_
      refine ls_move (x := x0) (by kernel_rfl) (by kernel_rfl) ?_
      refine ls_p (d := some 14) (by kernel_rfl) (by kernel_rfl) (p_nil (by kernel_rfl) H) (fun x14 H => ?_)
      refine ls_p (d := some 15) (by kernel_rfl) (by kernel_rfl) (p_off Try.underlying72 rfl (fun w => ⟨_, Try.sizeOf4 w⟩) rfl (by kernel_rfl) H) (fun x15 H => ?_)
      refine ls_d (d := none) (by kernel_rfl) (by kernel_rfl) HA_1 (d_st Try.sizeOf4 (by kernel_rfl) (by kernel_rfl) H) (fun _ h_2 w_2 H HA_2 => ?_)
      refine ls_nil ?_
      refine then_normal ?_
      refine fr_eq (b := ⟨#[x0, x1, undef, undef, (.bool false), x8, x0, x7, x8, x12, x0, x1, x12, x0, x14, x15, undef, undef, undef, undef, undef, undef, undef, undef, undef, undef, undef, undef], []⟩) (by kernel_rfl) ?_
      refine wp_seq ?_
      refine lwp_list ?_
      refine ls_assign (x := (.bool true)) (by kernel_rfl) (by kernel_rfl) ?_
      refine ls_nil ?_
      refine then_normal ?_
      refine fr_eq (b := ⟨#[x0, x1, undef, undef, (.bool true), x8, x0, x7, x8, x12, x0, x1, x12, x0, x14, x15, undef, undef, undef, undef, undef, undef, undef, undef, undef, undef, undef, undef], []⟩) (by kernel_rfl) ?_
      refine wp_ret ?_
      refine block_ret ?_
      refine then_ret ?_
      exact end1 (Try.results64) (by kernel_rfl) (by kernel_rfl) HA_2 H _ (.inr rfl)
    · refine wp_seq ?_
      refine lwp_list ?_
      refine ls_move (x := x0) (by kernel_rfl) (by kernel_rfl) ?_
      refine ls_move (x := x1) (by kernel_rfl) (by kernel_rfl) ?_
      refine ls_d (d := some 19) (by kernel_rfl) (by kernel_rfl) HA_1 (d_call (by kernel_rfl) (by kernel_rfl) H) (fun x19 h_3 w_3 H HA_3 => ?_)
      refine ls_assign (x := x19) (by kernel_rfl) (by kernel_rfl) ?_
      refine ls_nil ?_
      refine then_normal ?_
      refine fr_eq (b := ⟨#[x0, x1, undef, undef, (.bool false), x8, x0, x7, x8, x12, x0, x1, x12, undef, undef, undef, x19, x0, x1, x19, undef, undef, undef, undef, undef, undef, undef, undef], []⟩) (by kernel_rfl) ?_
      refine wp_if rfl H (fun H => ?_) (fun H => ?_)
      · refine wp_seq ?_
        refine lwp_list ?_
        refine ls_move (x := x0) (by kernel_rfl) (by kernel_rfl) ?_
        refine ls_p (d := some 21) (by kernel_rfl) (by kernel_rfl) (p_nil (by kernel_rfl) H) (fun x21 H => ?_)
        refine ls_p (d := some 22) (by kernel_rfl) (by kernel_rfl) (p_off Try.underlying72 rfl (fun w => ⟨_, Try.sizeOf4 w⟩) rfl (by kernel_rfl) H) (fun x22 H => ?_)
        refine ls_d (d := none) (by kernel_rfl) (by kernel_rfl) HA_3 (d_st Try.sizeOf4 (by kernel_rfl) (by kernel_rfl) H) (fun _ h_4 w_4 H HA_4 => ?_)
        refine ls_nil ?_
        refine then_normal ?_
        refine fr_eq (b := ⟨#[x0, x1, undef, undef, (.bool false), x8, x0, x7, x8, x12, x0, x1, x12, undef, undef, undef, x19, x0, x1, x19, x0, x21, x22, undef, undef, undef, undef, undef], []⟩) (by kernel_rfl) ?_
        refine wp_seq ?_
        refine lwp_list ?_
        refine ls_assign (x := (.bool true)) (by kernel_rfl) (by kernel_rfl) ?_
        refine ls_nil ?_
        refine then_normal ?_
        refine fr_eq (b := ⟨#[x0, x1, undef, undef, (.bool true), x8, x0, x7, x8, x12, x0, x1, x12, undef, undef, undef, x19, x0, x1, x19, x0, x21, x22, undef, undef, undef, undef, undef], []⟩) (by kernel_rfl) ?_
        refine wp_ret ?_
        refine block_ret ?_
        refine then_ret ?_
        exact end1 (Try.results64) (by kernel_rfl) (by kernel_rfl) HA_4 H _ (.inr rfl)
      · refine wp_skip ?_
        refine block_normal ?_
        refine then_normal ?_
        refine fr_eq (b := ⟨#[x0, x1, undef, undef, (.bool false), x8, x0, x7, x8, x12, x0, x1, x12, undef, undef, undef, x19, x0, x1, x19, undef, undef, undef, undef, undef, undef, undef, undef], []⟩) (by kernel_rfl) ?_
        refine wp_seq ?_
        refine wp_seq ?_
        refine lwp_list ?_
        refine ls_move (x := x0) (by kernel_rfl) (by kernel_rfl) ?_
        refine ls_d (d := some 24) (by kernel_rfl) (by kernel_rfl) HA_3 (d_call (by kernel_rfl) (by kernel_rfl) H) (fun x24 h_5 w_5 H HA_5 => ?_)
        refine ls_nil ?_
        refine then_normal ?_
        refine fr_eq (b := ⟨#[x0, x1, undef, undef, (.bool false), x8, x0, x7, x8, x12, x0, x1, x12, undef, undef, undef, x19, x0, x1, x19, undef, undef, undef, x0, x24, undef, undef, undef], []⟩) (by kernel_rfl) ?_
        refine wp_join (fun a w => ∃ (D : Nat → Value) (h_6 : Heap), a = ⟨#[x0, x1, undef, undef, (.bool false), x8, x0, x7, x8, x12, x0, x1, x12, undef, undef, undef, x19, x0, x1, x19, undef, undef, undef, x0, x24, (D 0), (D 1), (D 2)], []⟩ ∧ At w0 w h_6 ∧ ldisc_Disc_flow_j1 R h_6) ?_ ?_
        · refine wp_if rfl H (fun H => ?_) (fun H => ?_)
          · refine lwp_list ?_
            refine ls_move (x := x0) (by kernel_rfl) (by kernel_rfl) ?_
            refine ls_p (d := some 26) (by kernel_rfl) (by kernel_rfl) (p_nil (by kernel_rfl) H) (fun x26 H => ?_)
            refine ls_p (d := some 27) (by kernel_rfl) (by kernel_rfl) (p_off Try.underlying72 rfl (fun w => ⟨_, Try.sizeOf4 w⟩) rfl (by kernel_rfl) H) (fun x27 H => ?_)
            refine ls_d (d := none) (by kernel_rfl) (by kernel_rfl) HA_5 (d_st Try.sizeOf4 (by kernel_rfl) (by kernel_rfl) H) (fun _ h_7 w_7 H HA_7 => ?_)
            refine ls_nil ?_
            exact ⟨(fun i => ([x0, x26, x27]).getD i undef), h_7, by kernel_rfl, HA_7, H⟩
          · refine wp_skip ?_
            exact ⟨(fun i => ([undef, undef, undef]).getD i undef), h_5, by kernel_rfl, HA_5, H⟩
        · rintro _ w_6 ⟨D, h_6, rfl, HA_6, H⟩
          unfold ldisc_Disc_flow_j1 at H
          refine then_normal ?_
          refine fr_eq (b := ⟨#[x0, x1, undef, undef, (.bool false), x8, x0, x7, x8, x12, x0, x1, x12, undef, undef, undef, x19, x0, x1, x19, undef, undef, undef, x0, x24, (D 0), (D 1), (D 2)], []⟩) (by kernel_rfl) ?_
          refine wp_seq ?_
          refine lwp_list ?_
          refine ls_assign (x := (.bool false)) (by kernel_rfl) (by kernel_rfl) ?_
          refine ls_nil ?_
          refine then_normal ?_
          refine fr_eq (b := ⟨#[x0, x1, undef, undef, (.bool false), x8, x0, x7, x8, x12, x0, x1, x12, undef, undef, undef, x19, x0, x1, x19, undef, undef, undef, x0, x24, (D 0), (D 1), (D 2)], []⟩) (by kernel_rfl) ?_
          refine wp_ret ?_
          exact end1 (Try.results64) (by kernel_rfl) (by kernel_rfl) HA_6 H _ (.inr rfl)

end Go.Proofs.Ytlcklnbgknhhkaa

end

section
/- The shallow reading of one function, and that the function does it. Written by a program. -/
set_option linter.unusedVariables false
namespace Go.Proofs.Ytlcklnbgknhhkaa
open Go Go.HW

def ldisc_Disc_byte_j1 (R : Value → Heap → Prop) (x0 x1_1 : Value) (h_2 : Heap) : Prop :=
  ldisc_Disc_put_c x0 x1_1 h_2 fun x20 h_3 => 
  R (.int .i64 0) h_3
def ldisc_Disc_byte_j2 (R : Value → Heap → Prop) (x39 : Value) (h_9 : Heap) : Prop :=
  R x39 h_9
def ldisc_Disc_byte_j3 (R : Value → Heap → Prop) (h_13 : Heap) : Prop :=
  R (.int .i64 0) h_13
def ldisc_Disc_byte_S (x0 x1 : Value) (h : Heap) (R : Value → Heap → Prop) : Prop :=
  sNil x0 fun x8 =>
  sOff x8 21 fun x9 =>
  sLd h x9 fun x10 =>
  sIf x10 (sNil x0 fun x12 =>
  sOff x12 21 fun x13 =>
  sSt h x13 (.bool false) fun h => 
  ldisc_Disc_in_c x0 (.int .i64 1) h fun x15 h_1 => 
  sIf x15 (sBits .and .u8 x1 (.int .u8 127) fun x17 =>
  ldisc_Disc_byte_j1 R x0 x17 h_1) (ldisc_Disc_byte_j1 R x0 x1 h_1)) (sNil x0 fun x23 =>
  sOff x23 0 fun x24 =>
  sLdN h x24 17 fun x25 =>
  termios_Map_c x25 x1 h fun x27 h_4 => 
  sTup x27 0 fun x28 =>
  sTup x27 1 fun x29 =>
  sNot x29 fun x31 =>
  sOrH x31 h_4 (fun k =>
  ldisc_Disc_flow_c x0 x28 h_4 fun x35 h_16 => 
  k x35 h_16) fun x36 h_5 =>
  sIf x36 (R (.int .i64 0) h_5) (ldisc_Disc_signal_c x0 x28 h_5 fun x39 h_6 => 
  sNe x39 (.int .i64 0) fun x41 =>
  sIf x41 (ldisc_Disc_show_c x0 x28 h_6 fun x44 h_7 => 
  ldisc_Disc_local_c x0 (.int .i64 128) h_7 fun x46 h_8 => 
  sNot x46 fun x47 =>
  sIf x47 (ldisc_Disc_Flush_c x0 h_8 fun x49 h_10 => 
  sNil x0 fun x51 =>
  sOff x51 20 fun x52 =>
  sSt h_10 x52 (.bool false) fun h_11 => 
  ldisc_Disc_byte_j2 R x39 h_11) (ldisc_Disc_byte_j2 R x39 h_8)) (ldisc_Disc_local_c x0 (.int .i64 1) h_6 fun x55 h_12 => 
  sIf x55 (ldisc_Disc_edit_c x0 x28 h_12 fun x58 h_14 => 
  ldisc_Disc_byte_j3 R h_14) (ldisc_Disc_put_c x0 x28 h_12 fun x61 h_15 => 
  ldisc_Disc_byte_j3 R h_15))))
set_option maxRecDepth 100000 in
theorem ldisc_Disc_byte_runs {x0 x1 : Value} {h : Heap} {R : Value → Heap → Prop} (H : ldisc_Disc_byte_S x0 x1 h R) : ldisc_Disc_byte_c x0 x1 h R := by
  unfold ldisc_Disc_byte_S at H
  refine runs_of (b := ⟨([x0, x1, undef, undef, undef, undef, undef, undef, undef, undef, undef, undef, undef, undef, undef, undef, undef, undef, undef, undef, undef, undef, undef, undef, undef, undef, undef, undef, undef, undef, undef, undef, undef, undef, undef, undef, undef, undef, undef, undef, undef, undef, undef, undef, undef, undef, undef, undef, undef, undef] ++ [undef, undef, undef, undef, undef, undef, undef, undef, undef, undef, undef, undef]).toArray, []⟩) Try.call43 Try.func43 rfl (by kernel_rfl) (fun w0 HA => ?_)
  refine wp_seq ?_
  refine lwp_list ?_
  refine ls_assign (x := (.int .i64 0)) (by kernel_rfl) (by kernel_rfl) ?_
  refine ls_nil ?_
  refine then_normal ?_
  refine fr_eq (b := ⟨([x0, x1, undef, undef, (.int .i64 0), undef, undef, undef, undef, undef, undef, undef, undef, undef, undef, undef, undef, undef, undef, undef, undef, undef, undef, undef, undef, undef, undef, undef, undef, undef, undef, undef, undef, undef, undef, undef, undef, undef, undef, undef, undef, undef, undef, undef, undef, undef, undef, undef, undef, undef] ++ [undef, undef, undef, undef, undef, undef, undef, undef, undef, undef, undef, undef]).toArray, []⟩) (by kernel_rfl) ?_
  refine wp_seq ?_
  refine wp_seq ?_
  refine lwp_list ?_
  refine ls_move (x := x0) (by kernel_rfl) (by kernel_rfl) ?_
  refine ls_p (d := some 8) (by kernel_rfl) (by kernel_rfl) (p_nil (by kernel_rfl) H) (fun x8 H => ?_)
  refine ls_p (d := some 9) (by kernel_rfl) (by kernel_rfl) (p_off Try.underlying72 rfl (fun w => ⟨_, Try.sizeOf4 w⟩) rfl (by kernel_rfl) H) (fun x9 H => ?_)
  refine ls_y (d := some 10) (by kernel_rfl) (by kernel_rfl) HA (y_ld Try.isAgg4 (by kernel_rfl) H) (fun x10 H => ?_)
  refine ls_nil ?_
  refine then_normal ?_
  refine fr_eq (b := ⟨([x0, x1, undef, undef, (.int .i64 0), undef, undef, x0, x8, x9, x10, undef, undef, undef, undef, undef, undef, undef, undef, undef, undef, undef, undef, undef, undef, undef, undef, undef, undef, undef, undef, undef, undef, undef, undef, undef, undef, undef, undef, undef, undef, undef, undef, undef, undef, undef, undef, undef, undef, undef] ++ [undef, undef, undef, undef, undef, undef, undef, undef, undef, undef, undef, undef]).toArray, []⟩) (by kernel_rfl) ?_
  refine wp_if rfl H (fun H => ?_) (fun H => ?_)
  · refine wp_seq ?_
    refine lwp_list ?_
    refine ls_move (x := x0) (by kernel_rfl) (by kernel_rfl) ?_
    refine ls_p (d := some 12) (by kernel_rfl) (by kernel_rfl) (p_nil (by kernel_rfl) H) (fun x12 H => ?_)
    refine ls_p (d := some 13) (by kernel_rfl) (by kernel_rfl) (p_off Try.underlying72 rfl (fun w => ⟨_, Try.sizeOf4 w⟩) rfl (by kernel_rfl) H) (fun x13 H => ?_)
    refine ls_d (d := none) (by kernel_rfl) (by kernel_rfl) HA (d_st Try.sizeOf4 (by kernel_rfl) (by kernel_rfl) H) (fun _ h w H HA => ?_)
    refine ls_nil ?_
    refine then_normal ?_
    refine fr_eq (b := ⟨([x0, x1, undef, undef, (.int .i64 0), undef, undef, x0, x8, x9, x10, x0, x12, x13, undef, undef, undef, undef, undef, undef, undef, undef, undef, undef, undef, undef, undef, undef, undef, undef, undef, undef, undef, undef, undef, undef, undef, undef, undef, undef, undef, undef, undef, undef, undef, undef, undef, undef, undef, undef] ++ [undef, undef, undef, undef, undef, undef, undef, undef, undef, undef, undef, undef]).toArray, []⟩) (by kernel_rfl) ?_
    refine wp_seq ?_
    refine wp_seq ?_
    refine lwp_list ?_
    refine ls_move (x := x0) (by kernel_rfl) (by kernel_rfl) ?_
    refine ls_d (d := some 15) (by kernel_rfl) (by kernel_rfl) HA (d_call (by kernel_rfl) (by kernel_rfl) H) (fun x15 h_1 w_1 H HA_1 => ?_)
    refine ls_nil ?_
    refine then_normal ?_
    refine fr_eq (b := ⟨([x0, x1, undef, undef, (.int .i64 0), undef, undef, x0, x8, x9, x10, x0, x12, x13, x0, x15, undef, undef, undef, undef, undef, undef, undef, undef, undef, undef, undef, undef, undef, undef, undef, undef, undef, undef, undef, undef, undef, undef, undef, undef, undef, undef, undef, undef, undef, undef, undef, undef, undef, undef] ++ [undef, undef, undef, undef, undef, undef, undef, undef, undef, undef, undef, undef]).toArray, []⟩) (by kernel_rfl) ?_
    refine wp_join (fun a w => ∃ (D : Nat → Value) (x1_1 : Value) (h_2 : Heap), a = ⟨([x0, x1_1, undef, undef, (.int .i64 0), undef, undef, x0, x8, x9, x10, x0, x12, x13, x0, x15, (D 0), (D 1), undef, undef, undef, undef, undef, undef, undef, undef, undef, undef, undef, undef, undef, undef, undef, undef, undef, undef, undef, undef, undef, undef, undef, undef, undef, undef, undef, undef, undef, undef, undef, undef] ++ [undef, undef, undef, undef, undef, undef, undef, undef, undef, undef, undef, undef]).toArray, []⟩ ∧ At w0 w h_2 ∧ ldisc_Disc_byte_j1 R x0 x1_1 h_2) ?_ ?_
    · refine wp_if rfl H (fun H => ?_) (fun H => ?_)
      · refine lwp_list ?_
        refine ls_move (x := x1) (by kernel_rfl) (by kernel_rfl) ?_
        refine ls_p (d := some 17) (by kernel_rfl) (by kernel_rfl) (p_bits (by decide) (by kernel_rfl) (by kernel_rfl) H) (fun x17 H => ?_)
        refine ls_assign (x := x17) (by kernel_rfl) (by kernel_rfl) ?_
        refine ls_nil ?_
        exact ⟨(fun i => ([x1, x17]).getD i undef), x17, h_1, by kernel_rfl, HA_1, H⟩
      · refine wp_skip ?_
        exact ⟨(fun i => ([undef, undef]).getD i undef), x1, h_1, by kernel_rfl, HA_1, H⟩
    · rintro _ w_2 ⟨D, x1_1, h_2, rfl, HA_2, H⟩
      unfold ldisc_Disc_byte_j1 at H
      refine then_normal ?_
      refine fr_eq (b := ⟨([x0, x1_1, undef, undef, (.int .i64 0), undef, undef, x0, x8, x9, x10, x0, x12, x13, x0, x15, (D 0), (D 1), undef, undef, undef, undef, undef, undef, undef, undef, undef, undef, undef, undef, undef, undef, undef, undef, undef, undef, undef, undef, undef, undef, undef, undef, undef, undef, undef, undef, undef, undef, undef, undef] ++ [undef, undef, undef, undef, undef, undef, undef, undef, undef, undef, undef, undef]).toArray, []⟩) (by kernel_rfl) ?_
      refine wp_seq ?_
      refine lwp_list ?_
      refine ls_move (x := x0) (by kernel_rfl) (by kernel_rfl) ?_
      refine ls_move (x := x1_1) (by kernel_rfl) (by kernel_rfl) ?_
      refine ls_d (d := some 20) (by kernel_rfl) (by kernel_rfl) HA_2 (d_call (by kernel_rfl) (by kernel_rfl) H) (fun x20 h_3 w_3 H HA_3 => ?_)
      refine ls_nil ?_
      refine then_normal ?_
      refine fr_eq (b := ⟨([x0, x1_1, undef, undef, (.int .i64 0), undef, undef, x0, x8, x9, x10, x0, x12, x13, x0, x15, (D 0), (D 1), x0, x1_1, x20, undef, undef, undef, undef, undef, undef, undef, undef, undef, undef, undef, undef, undef, undef, undef, undef, undef, undef, undef, undef, undef, undef, undef, undef, undef, undef, undef, undef, undef] ++ [undef, undef, undef, undef, undef, undef, undef, undef, undef, undef, undef, undef]).toArray, []⟩) (by kernel_rfl) ?_
      refine wp_seq ?_
      refine lwp_list ?_
      refine ls_assign (x := (.int .i64 0)) (by kernel_rfl) (by kernel_rfl) ?_
      refine ls_nil ?_
      refine then_normal ?_
      refine fr_eq (b := ⟨([x0, x1_1, undef, undef, (.int .i64 0), undef, undef, x0, x8, x9, x10, x0, x12, x13, x0, x15, (D 0), (D 1), x0, x1_1, x20, undef, undef, undef, undef, undef, undef, undef, undef, undef, undef, undef, undef, undef, undef, undef, undef, undef, undef, undef, undef, undef, undef, undef, undef, undef, undef, undef, undef, undef] ++ [undef, undef, undef, undef, undef, undef, undef, undef, undef, undef, undef, undef]).toArray, []⟩) (by kernel_rfl) ?_
      refine wp_ret ?_
      refine then_ret ?_
      exact end1 (Try.results43) (by kernel_rfl) (by kernel_rfl) HA_3 H _ (.inr rfl)
  · refine wp_skip ?_
    refine then_normal ?_
    refine fr_eq (b := ⟨([x0, x1, undef, undef, (.int .i64 0), undef, undef, x0, x8, x9, x10, undef, undef, undef, undef, undef, undef, undef, undef, undef, undef, undef, undef, undef, undef, undef, undef, undef, undef, undef, undef, undef, undef, undef, undef, undef, undef, undef, undef, undef, undef, undef, undef, undef, undef, undef, undef, undef, undef, undef] ++ [undef, undef, undef, undef, undef, undef, undef, undef, undef, undef, undef, undef]).toArray, []⟩) (by kernel_rfl) ?_
    refine wp_seq ?_
    refine lwp_list ?_
    refine ls_move (x := x0) (by kernel_rfl) (by kernel_rfl) ?_
    refine ls_p (d := some 23) (by kernel_rfl) (by kernel_rfl) (p_nil (by kernel_rfl) H) (fun x23 H => ?_)
    refine ls_p (d := some 24) (by kernel_rfl) (by kernel_rfl) (p_off Try.underlying72 rfl (fun w => ⟨_, Try.sizeOf28 w⟩) rfl (by kernel_rfl) H) (fun x24 H => ?_)
    refine ls_y (d := some 25) (by kernel_rfl) (by kernel_rfl) HA (y_ldn Try.isAgg28 Try.sizeOf28 (by kernel_rfl) H) (fun x25 H => ?_)
    refine ls_move (x := x1) (by kernel_rfl) (by kernel_rfl) ?_
    refine ls_d (d := some 27) (by kernel_rfl) (by kernel_rfl) HA (d_call (by kernel_rfl) (by kernel_rfl) H) (fun x27 h_4 w_4 H HA_4 => ?_)
    refine ls_fr (b := ⟨([x0, x1, undef, undef, (.int .i64 0), undef, undef, x0, x8, x9, x10, undef, undef, undef, undef, undef, undef, undef, undef, undef, undef, undef, x0, x23, x24, x25, x1, x27, undef, undef, undef, undef, undef, undef, undef, undef, undef, undef, undef, undef, undef, undef, undef, undef, undef, undef, undef, undef, undef, undef] ++ [undef, undef, undef, undef, undef, undef, undef, undef, undef, undef, undef, undef]).toArray, []⟩) (by kernel_rfl) ?_
    refine ls_move (x := x27) (by kernel_rfl) (by kernel_rfl) ?_
    refine ls_p (d := some 28) (by kernel_rfl) (by kernel_rfl) (p_tup (by kernel_rfl) H) (fun x28 H => ?_)
    refine ls_p (d := some 29) (by kernel_rfl) (by kernel_rfl) (p_tup (by kernel_rfl) H) (fun x29 H => ?_)
    refine ls_assign (x := x28) (by kernel_rfl) (by kernel_rfl) ?_
    refine ls_assign (x := x29) (by kernel_rfl) (by kernel_rfl) ?_
    refine ls_nil ?_
    refine then_normal ?_
    refine fr_eq (b := ⟨([x0, x28, undef, undef, (.int .i64 0), x29, undef, x0, x8, x9, x10, undef, undef, undef, undef, undef, undef, undef, undef, undef, undef, x27, x0, x23, x24, x25, x1, x27, x28, x29, undef, undef, undef, undef, undef, undef, undef, undef, undef, undef, undef, undef, undef, undef, undef, undef, undef, undef, undef, undef] ++ [undef, undef, undef, undef, undef, undef, undef, undef, undef, undef, undef, undef]).toArray, []⟩) (by kernel_rfl) ?_
    refine wp_seq ?_
    refine wp_seq ?_
    refine lwp_list ?_
    refine ls_move (x := x29) (by kernel_rfl) (by kernel_rfl) ?_
    refine ls_p (d := some 31) (by kernel_rfl) (by kernel_rfl) (p_not (by kernel_rfl) H) (fun x31 H => ?_)
    refine ls_move (x := x31) (by kernel_rfl) (by kernel_rfl) ?_
    refine ls_orh [(), (), (), ()] (fun K a w => ∃ (D_1 : Nat → Value) (x36 : Value) (h_5 : Heap), a = ⟨([x0, x28, undef, undef, (.int .i64 0), x29, undef, x0, x8, x9, x10, undef, undef, undef, undef, undef, undef, undef, undef, undef, undef, x27, x0, x23, x24, x25, x1, x27, x28, x29, x29, x31, x31, (D_1 0), (D_1 1), (D_1 2), x36, undef, undef, undef, undef, undef, undef, undef, undef, undef, undef, undef, undef, undef] ++ [undef, undef, undef, undef, undef, undef, undef, undef, undef, undef, undef, undef]).toArray, []⟩ ∧ At w0 w h_5 ∧ K x36 h_5) H (fun hb H => ?_) (fun hb H => ?_) ?_
    · refine ls_move (x := x0) (by rw [hb]; kernel_rfl) (by kernel_rfl) ?_
      refine ls_move (x := x28) (by rw [hb]; kernel_rfl) (by kernel_rfl) ?_
      refine ls_d (d := some 35) (by kernel_rfl) (by rw [hb]; kernel_rfl) HA_4 (d_call (by kernel_rfl) (by kernel_rfl) H) (fun x35 h_16 w_16 H HA_16 => ?_)
      refine ls_fr (b := ⟨([x0, x28, undef, undef, (.int .i64 0), x29, undef, x0, x8, x9, x10, undef, undef, undef, undef, undef, undef, undef, undef, undef, undef, x27, x0, x23, x24, x25, x1, x27, x28, x29, x29, x31, x31, x0, x28, x35, undef, undef, undef, undef, undef, undef, undef, undef, undef, undef, undef, undef, undef, undef] ++ [undef, undef, undef, undef, undef, undef, undef, undef, undef, undef, undef, undef]).toArray, []⟩) (by kernel_rfl) ?_
      refine ls_pick_f (y := x35) (by kernel_rfl) (by rw [hb]; kernel_rfl) (by kernel_rfl) ?_
      refine ls_nil ?_
      refine then_normal ?_
      exact ⟨(fun i => ([x0, x28, x35]).getD i undef), x35, h_16, by kernel_rfl, HA_16, H⟩
    · refine ls_skip (d := some 33) (by kernel_rfl) (by rw [hb]; kernel_rfl) ?_
      refine ls_skip (d := some 34) (by kernel_rfl) (by rw [hb]; kernel_rfl) ?_
      refine ls_skip (d := some 35) (by kernel_rfl) (by rw [hb]; kernel_rfl) ?_
      refine ls_fr (b := ⟨([x0, x28, undef, undef, (.int .i64 0), x29, undef, x0, x8, x9, x10, undef, undef, undef, undef, undef, undef, undef, undef, undef, undef, x27, x0, x23, x24, x25, x1, x27, x28, x29, x29, x31, x31, undef, undef, undef, undef, undef, undef, undef, undef, undef, undef, undef, undef, undef, undef, undef, undef, undef] ++ [undef, undef, undef, undef, undef, undef, undef, undef, undef, undef, undef, undef]).toArray, []⟩) (by kernel_rfl) ?_
      refine ls_pick_t (x := (.bool true)) (by kernel_rfl) (by rw [hb]; kernel_rfl) (by kernel_rfl) ?_
      refine ls_nil ?_
      refine then_normal ?_
      exact ⟨(fun i => ([undef, undef, undef]).getD i undef), (.bool true), h_4, by kernel_rfl, HA_4, H⟩
    · rintro _ w_5 ⟨D_1, x36, h_5, rfl, HA_5, H⟩
      refine ls_nil ?_
      refine then_normal ?_
      refine fr_eq (b := ⟨([x0, x28, undef, undef, (.int .i64 0), x29, undef, x0, x8, x9, x10, undef, undef, undef, undef, undef, undef, undef, undef, undef, undef, x27, x0, x23, x24, x25, x1, x27, x28, x29, x29, x31, x31, (D_1 0), (D_1 1), (D_1 2), x36, undef, undef, undef, undef, undef, undef, undef, undef, undef, undef, undef, undef, undef] ++ [undef, undef, undef, undef, undef, undef, undef, undef, undef, undef, undef, undef]).toArray, []⟩) (by kernel_rfl) ?_
      refine wp_if rfl H (fun H => ?_) (fun H => ?_)
      · refine wp_seq ?_
        refine lwp_list ?_
        refine ls_assign (x := (.int .i64 0)) (by kernel_rfl) (by kernel_rfl) ?_
        refine ls_nil ?_
        refine then_normal ?_
        refine fr_eq (b := ⟨([x0, x28, undef, undef, (.int .i64 0), x29, undef, x0, x8, x9, x10, undef, undef, undef, undef, undef, undef, undef, undef, undef, undef, x27, x0, x23, x24, x25, x1, x27, x28, x29, x29, x31, x31, (D_1 0), (D_1 1), (D_1 2), x36, undef, undef, undef, undef, undef, undef, undef, undef, undef, undef, undef, undef, undef] ++ [undef, undef, undef, undef, undef, undef, undef, undef, undef, undef, undef, undef]).toArray, []⟩) (by kernel_rfl) ?_
        refine wp_ret ?_
        refine then_ret ?_
        exact end1 (Try.results43) (by kernel_rfl) (by kernel_rfl) HA_5 H _ (.inr rfl)
      · refine wp_skip ?_
        refine then_normal ?_
        refine fr_eq (b := ⟨([x0, x28, undef, undef, (.int .i64 0), x29, undef, x0, x8, x9, x10, undef, undef, undef, undef, undef, undef, undef, undef, undef, undef, x27, x0, x23, x24, x25, x1, x27, x28, x29, x29, x31, x31, (D_1 0), (D_1 1), (D_1 2), x36, undef, undef, undef, undef, undef, undef, undef, undef, undef, undef, undef, undef, undef] ++ [undef, undef, undef, undef, undef, undef, undef, undef, undef, undef, undef, undef]).toArray, []⟩) (by kernel_rfl) ?_
        refine wp_seq ?_
        refine wp_seq ?_
        refine lwp_list ?_
        refine ls_move (x := x0) (by kernel_rfl) (by kernel_rfl) ?_
        refine ls_move (x := x28) (by kernel_rfl) (by kernel_rfl) ?_
        refine ls_d (d := some 39) (by kernel_rfl) (by kernel_rfl) HA_5 (d_call (by kernel_rfl) (by kernel_rfl) H) (fun x39 h_6 w_6 H HA_6 => ?_)
        refine ls_assign (x := x39) (by kernel_rfl) (by kernel_rfl) ?_
        refine ls_nil ?_
        refine then_normal ?_
        refine fr_eq (b := ⟨([x0, x28, undef, undef, (.int .i64 0), x29, x39, x0, x8, x9, x10, undef, undef, undef, undef, undef, undef, undef, undef, undef, undef, x27, x0, x23, x24, x25, x1, x27, x28, x29, x29, x31, x31, (D_1 0), (D_1 1), (D_1 2), x36, x0, x28, x39, undef, undef, undef, undef, undef, undef, undef, undef, undef, undef] ++ [undef, undef, undef, undef, undef, undef, undef, undef, undef, undef, undef, undef]).toArray, []⟩) (by kernel_rfl) ?_
        refine wp_seq ?_
        refine lwp_list ?_
        refine ls_move (x := x39) (by kernel_rfl) (by kernel_rfl) ?_
        refine ls_p (d := some 41) (by kernel_rfl) (by kernel_rfl) (p_sNe (by kernel_rfl) (by kernel_rfl) H) (fun x41 H => ?_)
        refine ls_nil ?_
        refine then_normal ?_
        refine fr_eq (b := ⟨([x0, x28, undef, undef, (.int .i64 0), x29, x39, x0, x8, x9, x10, undef, undef, undef, undef, undef, undef, undef, undef, undef, undef, x27, x0, x23, x24, x25, x1, x27, x28, x29, x29, x31, x31, (D_1 0), (D_1 1), (D_1 2), x36, x0, x28, x39, x39, x41, undef, undef, undef, undef, undef, undef, undef, undef] ++ [undef, undef, undef, undef, undef, undef, undef, undef, undef, undef, undef, undef]).toArray, []⟩) (by kernel_rfl) ?_
        refine wp_if rfl H (fun H => ?_) (fun H => ?_)
        · refine wp_seq ?_
          refine lwp_list ?_
          refine ls_move (x := x0) (by kernel_rfl) (by kernel_rfl) ?_
          refine ls_move (x := x28) (by kernel_rfl) (by kernel_rfl) ?_
          refine ls_d (d := some 44) (by kernel_rfl) (by kernel_rfl) HA_6 (d_call (by kernel_rfl) (by kernel_rfl) H) (fun x44 h_7 w_7 H HA_7 => ?_)
          refine ls_nil ?_
          refine then_normal ?_
          refine fr_eq (b := ⟨([x0, x28, undef, undef, (.int .i64 0), x29, x39, x0, x8, x9, x10, undef, undef, undef, undef, undef, undef, undef, undef, undef, undef, x27, x0, x23, x24, x25, x1, x27, x28, x29, x29, x31, x31, (D_1 0), (D_1 1), (D_1 2), x36, x0, x28, x39, x39, x41, x0, x28, x44, undef, undef, undef, undef, undef] ++ [undef, undef, undef, undef, undef, undef, undef, undef, undef, undef, undef, undef]).toArray, []⟩) (by kernel_rfl) ?_
          refine wp_seq ?_
          refine wp_seq ?_
          refine lwp_list ?_
          refine ls_move (x := x0) (by kernel_rfl) (by kernel_rfl) ?_
          refine ls_d (d := some 46) (by kernel_rfl) (by kernel_rfl) HA_7 (d_call (by kernel_rfl) (by kernel_rfl) H) (fun x46 h_8 w_8 H HA_8 => ?_)
          refine ls_p (d := some 47) (by kernel_rfl) (by kernel_rfl) (p_not (by kernel_rfl) H) (fun x47 H => ?_)
          refine ls_nil ?_
          refine then_normal ?_
          refine fr_eq (b := ⟨([x0, x28, undef, undef, (.int .i64 0), x29, x39, x0, x8, x9, x10, undef, undef, undef, undef, undef, undef, undef, undef, undef, undef, x27, x0, x23, x24, x25, x1, x27, x28, x29, x29, x31, x31, (D_1 0), (D_1 1), (D_1 2), x36, x0, x28, x39, x39, x41, x0, x28, x44, x0, x46, x47, undef, undef] ++ [undef, undef, undef, undef, undef, undef, undef, undef, undef, undef, undef, undef]).toArray, []⟩) (by kernel_rfl) ?_
          refine wp_join (fun a w => ∃ (D_2 : Nat → Value) (h_9 : Heap), a = ⟨([x0, x28, undef, undef, (.int .i64 0), x29, x39, x0, x8, x9, x10, undef, undef, undef, undef, undef, undef, undef, undef, undef, undef, x27, x0, x23, x24, x25, x1, x27, x28, x29, x29, x31, x31, (D_1 0), (D_1 1), (D_1 2), x36, x0, x28, x39, x39, x41, x0, x28, x44, x0, x46, x47, (D_2 0), (D_2 1)] ++ [(D_2 2), (D_2 3), (D_2 4), undef, undef, undef, undef, undef, undef, undef, undef, undef]).toArray, []⟩ ∧ At w0 w h_9 ∧ ldisc_Disc_byte_j2 R x39 h_9) ?_ ?_
          · refine wp_if rfl H (fun H => ?_) (fun H => ?_)
            · refine wp_seq ?_
              refine lwp_list ?_
              refine ls_move (x := x0) (by kernel_rfl) (by kernel_rfl) ?_
              refine ls_d (d := some 49) (by kernel_rfl) (by kernel_rfl) HA_8 (d_call (by kernel_rfl) (by kernel_rfl) H) (fun x49 h_10 w_10 H HA_10 => ?_)
              refine ls_nil ?_
              refine then_normal ?_
              refine fr_eq (b := ⟨([x0, x28, undef, undef, (.int .i64 0), x29, x39, x0, x8, x9, x10, undef, undef, undef, undef, undef, undef, undef, undef, undef, undef, x27, x0, x23, x24, x25, x1, x27, x28, x29, x29, x31, x31, (D_1 0), (D_1 1), (D_1 2), x36, x0, x28, x39, x39, x41, x0, x28, x44, x0, x46, x47, x0, x49] ++ [undef, undef, undef, undef, undef, undef, undef, undef, undef, undef, undef, undef]).toArray, []⟩) (by kernel_rfl) ?_
              refine lwp_list ?_
              refine ls_move (x := x0) (by kernel_rfl) (by kernel_rfl) ?_
              refine ls_p (d := some 51) (by kernel_rfl) (by kernel_rfl) (p_nil (by kernel_rfl) H) (fun x51 H => ?_)
              refine ls_p (d := some 52) (by kernel_rfl) (by kernel_rfl) (p_off Try.underlying72 rfl (fun w => ⟨_, Try.sizeOf4 w⟩) rfl (by kernel_rfl) H) (fun x52 H => ?_)
              refine ls_d (d := none) (by kernel_rfl) (by kernel_rfl) HA_10 (d_st Try.sizeOf4 (by kernel_rfl) (by kernel_rfl) H) (fun _ h_11 w_11 H HA_11 => ?_)
              refine ls_nil ?_
              exact ⟨(fun i => ([x0, x49, x0, x51, x52]).getD i undef), h_11, by kernel_rfl, HA_11, H⟩
            · refine wp_skip ?_
              exact ⟨(fun i => ([undef, undef, undef, undef, undef]).getD i undef), h_8, by kernel_rfl, HA_8, H⟩
          · rintro _ w_9 ⟨D_2, h_9, rfl, HA_9, H⟩
            unfold ldisc_Disc_byte_j2 at H
            refine then_normal ?_
            refine fr_eq (b := ⟨([x0, x28, undef, undef, (.int .i64 0), x29, x39, x0, x8, x9, x10, undef, undef, undef, undef, undef, undef, undef, undef, undef, undef, x27, x0, x23, x24, x25, x1, x27, x28, x29, x29, x31, x31, (D_1 0), (D_1 1), (D_1 2), x36, x0, x28, x39, x39, x41, x0, x28, x44, x0, x46, x47, (D_2 0), (D_2 1)] ++ [(D_2 2), (D_2 3), (D_2 4), undef, undef, undef, undef, undef, undef, undef, undef, undef]).toArray, []⟩) (by kernel_rfl) ?_
            refine wp_seq ?_
            refine lwp_list ?_
            refine ls_move (x := x39) (by kernel_rfl) (by kernel_rfl) ?_
            refine ls_assign (x := x39) (by kernel_rfl) (by kernel_rfl) ?_
            refine ls_nil ?_
            refine then_normal ?_
            refine fr_eq (b := ⟨([x0, x28, undef, undef, x39, x29, x39, x0, x8, x9, x10, undef, undef, undef, undef, undef, undef, undef, undef, undef, undef, x27, x0, x23, x24, x25, x1, x27, x28, x29, x29, x31, x31, (D_1 0), (D_1 1), (D_1 2), x36, x0, x28, x39, x39, x41, x0, x28, x44, x0, x46, x47, (D_2 0), (D_2 1)] ++ [(D_2 2), (D_2 3), (D_2 4), x39, undef, undef, undef, undef, undef, undef, undef, undef]).toArray, []⟩) (by kernel_rfl) ?_
            refine wp_ret ?_
            refine then_ret ?_
            exact end1 (Try.results43) (by kernel_rfl) (by kernel_rfl) HA_9 H _ (.inr rfl)
        · refine wp_skip ?_
          refine then_normal ?_
          refine fr_eq (b := ⟨([x0, x28, undef, undef, (.int .i64 0), x29, x39, x0, x8, x9, x10, undef, undef, undef, undef, undef, undef, undef, undef, undef, undef, x27, x0, x23, x24, x25, x1, x27, x28, x29, x29, x31, x31, (D_1 0), (D_1 1), (D_1 2), x36, x0, x28, x39, x39, x41, undef, undef, undef, undef, undef, undef, undef, undef] ++ [undef, undef, undef, undef, undef, undef, undef, undef, undef, undef, undef, undef]).toArray, []⟩) (by kernel_rfl) ?_
          refine wp_seq ?_
          refine wp_seq ?_
          refine lwp_list ?_
          refine ls_move (x := x0) (by kernel_rfl) (by kernel_rfl) ?_
          refine ls_d (d := some 55) (by kernel_rfl) (by kernel_rfl) HA_6 (d_call (by kernel_rfl) (by kernel_rfl) H) (fun x55 h_12 w_12 H HA_12 => ?_)
          refine ls_nil ?_
          refine then_normal ?_
          refine fr_eq (b := ⟨([x0, x28, undef, undef, (.int .i64 0), x29, x39, x0, x8, x9, x10, undef, undef, undef, undef, undef, undef, undef, undef, undef, undef, x27, x0, x23, x24, x25, x1, x27, x28, x29, x29, x31, x31, (D_1 0), (D_1 1), (D_1 2), x36, x0, x28, x39, x39, x41, undef, undef, undef, undef, undef, undef, undef, undef] ++ [undef, undef, undef, undef, x0, x55, undef, undef, undef, undef, undef, undef]).toArray, []⟩) (by kernel_rfl) ?_
          refine wp_join (fun a w => ∃ (D_3 : Nat → Value) (h_13 : Heap), a = ⟨([x0, x28, undef, undef, (.int .i64 0), x29, x39, x0, x8, x9, x10, undef, undef, undef, undef, undef, undef, undef, undef, undef, undef, x27, x0, x23, x24, x25, x1, x27, x28, x29, x29, x31, x31, (D_1 0), (D_1 1), (D_1 2), x36, x0, x28, x39, x39, x41, undef, undef, undef, undef, undef, undef, undef, undef] ++ [undef, undef, undef, undef, x0, x55, (D_3 0), (D_3 1), (D_3 2), (D_3 3), (D_3 4), (D_3 5)]).toArray, []⟩ ∧ At w0 w h_13 ∧ ldisc_Disc_byte_j3 R h_13) ?_ ?_
          · refine wp_if rfl H (fun H => ?_) (fun H => ?_)
            · refine lwp_list ?_
              refine ls_move (x := x0) (by kernel_rfl) (by kernel_rfl) ?_
              refine ls_move (x := x28) (by kernel_rfl) (by kernel_rfl) ?_
              refine ls_d (d := some 58) (by kernel_rfl) (by kernel_rfl) HA_12 (d_call (by kernel_rfl) (by kernel_rfl) H) (fun x58 h_14 w_14 H HA_14 => ?_)
              refine ls_nil ?_
              exact ⟨(fun i => ([x0, x28, x58, undef, undef, undef]).getD i undef), h_14, by kernel_rfl, HA_14, H⟩
            · refine lwp_list ?_
              refine ls_move (x := x0) (by kernel_rfl) (by kernel_rfl) ?_
              refine ls_move (x := x28) (by kernel_rfl) (by kernel_rfl) ?_
              refine ls_d (d := some 61) (by kernel_rfl) (by kernel_rfl) HA_12 (d_call (by kernel_rfl) (by kernel_rfl) H) (fun x61 h_15 w_15 H HA_15 => ?_)
              refine ls_nil ?_
              exact ⟨(fun i => ([undef, undef, undef, x0, x28, x61]).getD i undef), h_15, by kernel_rfl, HA_15, H⟩
          · rintro _ w_13 ⟨D_3, h_13, rfl, HA_13, H⟩
            unfold ldisc_Disc_byte_j3 at H
            refine then_normal ?_
            refine fr_eq (b := ⟨([x0, x28, undef, undef, (.int .i64 0), x29, x39, x0, x8, x9, x10, undef, undef, undef, undef, undef, undef, undef, undef, undef, undef, x27, x0, x23, x24, x25, x1, x27, x28, x29, x29, x31, x31, (D_1 0), (D_1 1), (D_1 2), x36, x0, x28, x39, x39, x41, undef, undef, undef, undef, undef, undef, undef, undef] ++ [undef, undef, undef, undef, x0, x55, (D_3 0), (D_3 1), (D_3 2), (D_3 3), (D_3 4), (D_3 5)]).toArray, []⟩) (by kernel_rfl) ?_
            refine wp_seq ?_
            refine lwp_list ?_
            refine ls_assign (x := (.int .i64 0)) (by kernel_rfl) (by kernel_rfl) ?_
            refine ls_nil ?_
            refine then_normal ?_
            refine fr_eq (b := ⟨([x0, x28, undef, undef, (.int .i64 0), x29, x39, x0, x8, x9, x10, undef, undef, undef, undef, undef, undef, undef, undef, undef, undef, x27, x0, x23, x24, x25, x1, x27, x28, x29, x29, x31, x31, (D_1 0), (D_1 1), (D_1 2), x36, x0, x28, x39, x39, x41, undef, undef, undef, undef, undef, undef, undef, undef] ++ [undef, undef, undef, undef, x0, x55, (D_3 0), (D_3 1), (D_3 2), (D_3 3), (D_3 4), (D_3 5)]).toArray, []⟩) (by kernel_rfl) ?_
            refine wp_ret ?_
            exact end1 (Try.results43) (by kernel_rfl) (by kernel_rfl) HA_13 H _ (.inr rfl)

end Go.Proofs.Ytlcklnbgknhhkaa

end

section
/- The shallow reading of one function, and that the function does it. Written by a program. -/
set_option linter.unusedVariables false
namespace Go.Proofs.Ytlcklnbgknhhkaa
open Go Go.HW

def ldisc_Disc_Input_S (x0 x1 : Value) (h : Heap) (R : Value → Heap → Prop) : Prop :=
  sNil x0 fun x7 =>
  sOff x7 22 fun x8 =>
  sSt h x8 (.slice none 0 0) fun h => 
  ldisc_Disc_byte_c x0 x1 h fun x11 h_1 => 
  sNil x0 fun x13 =>
  sOff x13 22 fun x14 =>
  sLd h_1 x14 fun x15 =>
  R (.tuple #[x15, x11]) h_1
set_option maxRecDepth 100000 in
theorem ldisc_Disc_Input_runs {x0 x1 : Value} {h : Heap} {R : Value → Heap → Prop} (H : ldisc_Disc_Input_S x0 x1 h R) : ldisc_Disc_Input_c x0 x1 h R := by
  unfold ldisc_Disc_Input_S at H
  refine runs_of (b := ⟨#[x0, x1, undef, undef, undef, undef, undef, undef, undef, undef, undef, undef, undef, undef, undef, undef, undef], []⟩) Try.call19 Try.func19 rfl (by kernel_rfl) (fun w0 HA => ?_)
  refine wp_seq ?_
  refine lwp_list ?_
  refine ls_assign (x := (.slice none 0 0)) (by kernel_rfl) (by kernel_rfl) ?_
  refine ls_assign (x := (.int .i64 0)) (by kernel_rfl) (by kernel_rfl) ?_
  refine ls_nil ?_
  refine then_normal ?_
  refine fr_eq (b := ⟨#[x0, x1, undef, undef, (.slice none 0 0), (.int .i64 0), undef, undef, undef, undef, undef, undef, undef, undef, undef, undef, undef], []⟩) (by kernel_rfl) ?_
  refine wp_seq ?_
  refine lwp_list ?_
  refine ls_move (x := x0) (by kernel_rfl) (by kernel_rfl) ?_
  refine ls_p (d := some 7) (by kernel_rfl) (by kernel_rfl) (p_nil (by kernel_rfl) H) (fun x7 H => ?_)
  refine ls_p (d := some 8) (by kernel_rfl) (by kernel_rfl) (p_off Try.underlying72 rfl (fun w => ⟨_, Try.sizeOf30 w⟩) rfl (by kernel_rfl) H) (fun x8 H => ?_)
  refine ls_d (d := none) (by kernel_rfl) (by kernel_rfl) HA (d_st Try.sizeOf30 (by kernel_rfl) (by kernel_rfl) H) (fun _ h w H HA => ?_)
  refine ls_nil ?_
  refine then_normal ?_
  refine fr_eq (b := ⟨#[x0, x1, undef, undef, (.slice none 0 0), (.int .i64 0), x0, x7, x8, undef, undef, undef, undef, undef, undef, undef, undef], []⟩) (by kernel_rfl) ?_
  refine wp_seq ?_
  refine lwp_list ?_
  refine ls_move (x := x0) (by kernel_rfl) (by kernel_rfl) ?_
  refine ls_move (x := x1) (by kernel_rfl) (by kernel_rfl) ?_
  refine ls_d (d := some 11) (by kernel_rfl) (by kernel_rfl) HA (d_call (by kernel_rfl) (by kernel_rfl) H) (fun x11 h_1 w_1 H HA_1 => ?_)
  refine ls_assign (x := x11) (by kernel_rfl) (by kernel_rfl) ?_
  refine ls_nil ?_
  refine then_normal ?_
  refine fr_eq (b := ⟨#[x0, x1, undef, undef, (.slice none 0 0), x11, x0, x7, x8, x0, x1, x11, undef, undef, undef, undef, undef], []⟩) (by kernel_rfl) ?_
  refine wp_seq ?_
  refine lwp_list ?_
  refine ls_move (x := x0) (by kernel_rfl) (by kernel_rfl) ?_
  refine ls_p (d := some 13) (by kernel_rfl) (by kernel_rfl) (p_nil (by kernel_rfl) H) (fun x13 H => ?_)
  refine ls_p (d := some 14) (by kernel_rfl) (by kernel_rfl) (p_off Try.underlying72 rfl (fun w => ⟨_, Try.sizeOf30 w⟩) rfl (by kernel_rfl) H) (fun x14 H => ?_)
  refine ls_y (d := some 15) (by kernel_rfl) (by kernel_rfl) HA_1 (y_ld Try.isAgg30 (by kernel_rfl) H) (fun x15 H => ?_)
  refine ls_move (x := x11) (by kernel_rfl) (by kernel_rfl) ?_
  refine ls_assign (x := x15) (by kernel_rfl) (by kernel_rfl) ?_
  refine ls_fr (b := ⟨#[x0, x1, undef, undef, x15, x11, x0, x7, x8, x0, x1, x11, x0, x13, x14, x15, x11], []⟩) (by kernel_rfl) ?_
  refine ls_assign (x := x11) (by kernel_rfl) (by kernel_rfl) ?_
  refine ls_nil ?_
  refine then_normal ?_
  refine fr_eq (b := ⟨#[x0, x1, undef, undef, x15, x11, x0, x7, x8, x0, x1, x11, x0, x13, x14, x15, x11], []⟩) (by kernel_rfl) ?_
  refine wp_ret ?_
  exact end2 (Try.results19) (by kernel_rfl) (by kernel_rfl) (by kernel_rfl) HA_1 H _ (.inr rfl)

end Go.Proofs.Ytlcklnbgknhhkaa

end

section
/- The line discipline: lines, editing, input. -/
set_option linter.unusedSimpArgs false
set_option linter.unusedVariables false
namespace Go.Proofs.Ytlcklnbgknhhkaa
open Go Go.HW

def D.backW (p : Int → Bool) : Nat → D → D
  | 0, d => d
  | n + 1, d => if (!d.ln.isEmpty && p (d.ln.getLastD 0)) = true then D.backW p n d.back else d
def D.backWhile (d : D) (p : Int → Bool) : D := D.backW p d.ln.length d
theorem back_ln (d : D) : d.back.ln = d.ln.dropLast := by unfold D.back; split <;> rfl
theorem backWhile_eq (d : D) (p : Int → Bool) : d.backWhile p = if (!d.ln.isEmpty && p (d.ln.getLastD 0)) = true then d.back.backWhile p else d := by
  unfold D.backWhile
  rw [back_ln, List.length_dropLast]
  cases hd : d.ln with
  | nil => simp [D.backW]
  | cons a b => rw [List.length_cons, Nat.add_sub_cancel, D.backW, hd]
theorem backW_wt (p : Int → Bool) : ∀ (n : Nat) (d : D), (D.backW p n d).wt ≤ d.wt
  | 0, d => Nat.le_refl _
  | n + 1, d => by
    rw [D.backW]; split
    · rename_i h
      have hne : d.ln ≠ [] := by intro e; rw [e] at h; simp at h
      exact Nat.le_trans (backW_wt p n d.back) (back_wt d hne)
    · omega
theorem backWhile_wt (d : D) (p : Int → Bool) : (d.backWhile p).wt ≤ d.wt := backW_wt p _ d
def blank (c : Int) : Bool := c == 32 || c == 9
def D.signal (d : D) (c : Int) : Int := if (!d.loc 64) = true then 0 else if d.t.is 0 c = true then 1 else if d.t.is 1 c = true then 2 else if d.t.is 2 c = true then 3 else 0
def D.flow (d : D) (c : Int) : D × Bool := if (!d.inn 16) = true then (d, false) else if d.t.is 11 c = true then ({ d with st := true }, true) else if d.t.is 10 c = true then ({ d with st := false }, true) else if d.inn 32 = true then ({ d with st := false }, false) else (d, false)
def D.showAll (d : D) (l : List Int) : D := l.foldl D.show d
def D.reprint (d : D) (c : Int) : D := (if (d.show c).loc 2 = true then (d.show c).emit [10] else d.show c).showAll d.ln
def D.extended (d : D) (c : Int) : D × Bool :=
  if (!d.loc 512) = true then (d, false)
  else if d.t.is 9 c = true then (if d.loc 2 = true then ({ d with nx := true } : D).emit [94, 8] else { d with nx := true }, true)
  else if d.t.is 7 c = true then ((d.backWhile blank).backWhile (fun c => !blank c), true)
  else if d.t.is 8 c = true then (d.reprint c, true)
  else (d, false)
def D.kill (d : D) (c : Int) : D :=
  let d1 := d.backWhile (fun _ => true)
  let d2 := if (!d1.loc 4) = true then d1.show c else d1
  if (d2.loc 8 && d2.loc 2) = true then d2.emit [10] else d2
def D.edit (d : D) (c : Int) : D :=
  if (d.extended c).2 = true then (d.extended c).1
  else if (d.t.is 5 c && decide (0 < d.ln.length) && d.loc 4) = true then d.back
  else if d.t.is 5 c = true then (let d1 := if 0 < d.ln.length then d.back else d; if (!d1.loc 4) = true then d1.show c else d1)
  else if d.t.is 6 c = true then d.kill c
  else if d.t.is 3 c = true then d.ready
  else if d.ends c = true then (if (d.put c).2 = true then (d.put c).1.ready else (d.put c).1)
  else (d.put c).1
def D.sig (d : D) (c : Int) : D := if (!(d.show c).loc 128) = true then { (d.show c).flush with st := false } else d.show c
def D.byte (d : D) (c : Int) : D × Int :=
  if d.nx = true then ((({ d with nx := false } : D).put (if d.inn 1 = true then c % 128 else c)).1, 0)
  else if (d.t.map c).2 = false then (d, 0)
  else if (d.flow (d.t.map c).1).2 = true then ((d.flow (d.t.map c).1).1, 0)
  else if (d.flow (d.t.map c).1).1.signal (d.t.map c).1 ≠ 0 then ((d.flow (d.t.map c).1).1.sig (d.t.map c).1, (d.flow (d.t.map c).1).1.signal (d.t.map c).1)
  else if (d.flow (d.t.map c).1).1.loc 1 = true then ((d.flow (d.t.map c).1).1.edit (d.t.map c).1, 0)
  else (((d.flow (d.t.map c).1).1.put (d.t.map c).1).1, 0)
def D.input (d : D) (c : Int) : D × Int := ({ d with ec := [] } : D).byte c
def D0 (t : Tm) : D := ⟨t, [], [], [], false, false, []⟩
theorem flow_wt (d : D) (c : Int) : (d.flow c).1.wt = d.wt := by unfold D.flow; split <;> (try split) <;> (try split) <;> (try split) <;> rfl
theorem extended_not {d : D} {c : Int} (h : (d.extended c).2 = false) : (d.extended c).1 = d := by
  unfold D.extended at *
  split
  · rfl
  · rename_i h1; rw [if_neg h1] at h
    split
    · rename_i h2; rw [if_pos h2] at h; cases h
    · rename_i h2; rw [if_neg h2] at h
      split
      · rename_i h3; rw [if_pos h3] at h; cases h
      · rename_i h3; rw [if_neg h3] at h
        split
        · rename_i h4; rw [if_pos h4] at h; cases h
        · rfl

section
variable {h0 h : Heap} {F : List HP} {R : Value → Heap → Prop} {k : Nat} {d : D}
theorem rows_len {rs : List (CV × List Int)} {i : Nat} {p : CV × List Int} (s : HW.Sep h0 (rowsU rs :: F) h) (hp : rs[i]? = some p) : Seq (encI .u8) 1 h p.1.1 p.2 := by
  obtain ⟨A, B, e⟩ := List.append_of_mem (List.mem_of_getElem? hp)
  have s2 := s.open_all
  rw [e, List.map_append, List.map_cons, List.append_assoc, List.cons_append] at s2
  exact (s2.perm List.perm_middle).seq
theorem sumL_take (ls : List (List Int)) : ∀ i, i ≤ ls.length → sumL (ls.take i) ≤ sumL ls := by
  intro i _
  have e : ls = ls.take i ++ ls.drop i := (List.take_append_drop i ls).symm
  have : sumL ls = sumL (ls.take i) + sumL (ls.drop i) := by conv => lhs; rw [e]
                                                             unfold sumL; rw [List.map_append, List.sum_append]
  omega
theorem Ready_spec (s : HW.Sep h0 (Dc k d :: F) h) (hb : d.wt ≤ 1073741000) (H : R (.int .i64 d.readyN) h) : ldisc_Disc_Ready_c (ptr k 0) h R := by
  apply ldisc_Disc_Ready_runs
  unfold ldisc_Disc_Ready_S
  obtain ⟨lv, sv, rv, ev, rs, e, s⟩ := Dopen s
  have wts := hb
  unfold D.wt at wts
  have f19 : ∀ {K : Value → Prop}, sLd h (ptr k 19) K = K rv := s.ld rfl
  have f18 : ∀ {K : Value → Prop}, sLd h (ptr k 18) K = K sv := s.ld rfl
  have l19 : ∀ {K : Value → Prop}, sLen rv K = K (.int .i64 d.ra.length) := fun {K} => s.b4.seq.len
  have l18 : ∀ {K : Value → Prop}, sLen sv K = K (.int .i64 d.ls.length) := fun {K} => by rw [s.b2.seq.len, ← e, List.length_map, List.length_map]
  simp only [ev_nil, ev_off, Nat.zero_add, f19, f18, l19, l18]
  refine ⟨fun t h' => ∃ i : Nat, i ≤ d.ls.length ∧ t = (.int .i64 ((d.ra.length + sumL (d.ls.take i) : Nat) : Int), .int .i64 i) ∧ h' = h, fun t _ => match t.2 with | .int _ i => (d.ls.length - i).toNat | _ => 0, ⟨0, Nat.zero_le _, rfl, rfl⟩, ?_⟩
  rintro _ h' ⟨i, hi, rfl, rfl⟩
  simp only []
  unfold ldisc_Disc_Ready_l1
  rw [ev_lt, ev_if]
  have st := sumL_take d.ls i hi
  by_cases hlt : i < d.ls.length
  · rw [if_pos (decide_eq_true (by omega))]
    have hr : i < rs.length := by rw [← e, List.length_map] at hlt; exact hlt
    obtain ⟨p, hp⟩ : ∃ p, rs[i]? = some p := ⟨rs[i], List.getElem?_eq_getElem hr⟩
    have hp1 : (rs.map (·.1))[i]? = some p.1 := by rw [List.getElem?_map, hp]; rfl
    have hp2 : d.ls[i]? = some p.2 := by rw [← e, List.getElem?_map, hp]; rfl
    rw [Seq.ld s.b2.seq hp1 rfl, (rows_len s.b3 hp).len, ev_add]
    have st2 := sumL_take d.ls (i + 1) (by omega)
    have e2 : sumL (d.ls.take (i + 1)) = sumL (d.ls.take i) + p.2.length := by rw [List.take_add_one, hp2]; exact sumL_append _ _
    rw [wrap_i64 (by omega) (by omega), ev_add, wrap_i64 (by omega) (by omega)]
    refine ⟨⟨i + 1, hlt, by rw [e2, Int.natCast_add, Int.natCast_add, Int.natCast_add, Int.natCast_add, Int.add_assoc]; rfl, rfl⟩, by simp only; omega⟩
  · have : i = d.ls.length := by omega
    subst this
    rw [if_neg (by simp), List.take_of_length_le (Nat.le_refl _)]
    exact H
theorem noLine {sv rv ev : Value} {rs : List (CV × List Int)} (e : rs.map (·.2) = d.ls) (s : HW.Sep h0 (Blk k (dC { d with ln := [] } (.slice none 0 0) sv rv ev) 72 :: Sl encCV 1 sv (rs.map (·.1)) :: rowsU rs :: Sl (encI .u8) 1 rv d.ra :: Sl (encI .u8) 1 ev d.ec :: F) h) : HW.Sep h0 (Dc k { d with ln := [] } :: F) h :=
  Dshut (d := { d with ln := [] }) e (sep_nil s).b1
theorem ready_j1 (s : HW.Sep h0 (Dc k d :: F) h) (H : ∀ h', HW.Sep h0 (Dc k { d with ln := [] } :: F) h' → R unit h') : ldisc_Disc_ready_j1 R (ptr k 0) h := by
  unfold ldisc_Disc_ready_j1
  obtain ⟨lv, sv, rv, ev, rs, e, s⟩ := Dopen s
  rw [ev_nil, ev_off, Nat.zero_add]
  refine s.st (Nat.le_of_ble_eq_true rfl) trivial (fun h1 s1 => ?_)
  exact H h1 (noLine e s1.drop1)
theorem ready_spec (s : HW.Sep h0 (Dc k d :: F) h) (hb : d.wt ≤ 1073741000) (H : ∀ h', HW.Sep h0 (Dc k d.ready :: F) h' → R unit h') : ldisc_Disc_ready_c (ptr k 0) h R := by
  apply ldisc_Disc_ready_runs
  unfold ldisc_Disc_ready_S
  obtain ⟨lv, sv, rv, ev, rs, e, so⟩ := Dopen s
  have b : h.has k (dC d lv sv rv ev) 72 := so.has
  have wts := hb
  unfold D.wt at wts
  refine ⟨fun h' => h'.has k (dC d lv sv rv ev) 72, b, ?_⟩
  have cc : ∀ {o : Nat} {u : Value} {K : Value → Prop}, (dC d lv sv rv ev)[o]? = some u → sLdC (fun h' => h'.has k (dC d lv sv rv ev) 72) (ptr k o) K = K u := fun hv => ldc_at (C := fun h' => h'.has k (dC d lv sv rv ev) 72) (h0 := h) b (fun h' e => by rw [e.at, hv])
  refine Ready_spec s hb ⟨b, ?_⟩
  rw [ev_nil, ev_off, Nat.zero_add, cc (o := 17) (u := lv) rfl, so.b1.seq.len, ev_add]
  have hr : d.readyN ≤ 1073741000 := by unfold D.readyN; omega
  rw [wrap_i64 (by omega) (by omega), ev_gt, ev_if]
  unfold D.ready at H
  by_cases hg : d.readyN + d.ln.length > 1024
  · rw [if_pos hg] at H
    rw [if_pos (decide_eq_true (by omega))]
    exact bell_spec s (by omega) (fun h1 s1 => ready_j1 s1 H)
  · rw [if_neg hg] at H
    rw [if_neg (by simp; omega)]
    refine ⟨fun h' => h'.has k (dC d lv sv rv ev) 72, b, ?_⟩
    have f17 : ∀ {K : Value → Prop}, sLd h (ptr k 17) K = K lv := so.ld rfl
    rw [ev_nil, ev_off, Nat.zero_add, cc (o := 18) (u := sv) rfl, ev_nil, ev_off, Nat.zero_add, f17]
    have cl : Cell1 lv := so.b1.cell
    obtain ⟨va, vn, vm, rfl, _⟩ := so.b1.seq
    refine so.slit (enc := encCV) (sz := 1) encCV_len [⟨.slice va vn vm, cl⟩] rfl ⟨rfl, Nat.le_of_ble_eq_true rfl, rfl⟩ (fun v h1 cv s1 => ⟨s1.b1.has, ?_⟩)
    refine s1.b3.app (enc := encCV) (sz := 1) rfl (by decide) encCV_len encCV_cell s1.seq (by rw [← e] at wts; simp only [List.length_map, List.length_cons, List.length_nil] at wts ⊢; omega) (by decide) (fun v2 h2 cv2 s2 => ?_)
    rw [ev_nil, ev_off, Nat.zero_add]
    refine s2.b2.st (Nat.le_of_ble_eq_true rfl) cv2 (fun h3 s3 => ?_)
    unfold ldisc_Disc_ready_j1
    rw [ev_nil, ev_off, Nat.zero_add]
    refine s3.st (Nat.le_of_ble_eq_true rfl) trivial (fun h4 s4 => ?_)
    have s5 : HW.Sep h0 (Blk k (dC { d with ls := d.ls ++ [d.ln], ln := [] } (.slice none 0 0) v2 rv ev) 72 :: Sl encCV 1 v2 (rs.map (·.1) ++ [⟨.slice va vn vm, cl⟩]) :: Sl encCV 1 v [⟨.slice va vn vm, cl⟩] :: Sl (encI .u8) 1 (.slice va vn vm) d.ln :: rowsU rs :: Sl (encI .u8) 1 rv d.ra :: Sl (encI .u8) 1 ev d.ec :: F) h4 := s4
    have s6 := s5.b2.tail.b2.b3
    have s7 := HW.Sep.push s6
    have s8 : HW.Sep h0 (rowsU (rs ++ [(⟨.slice va vn vm, cl⟩, d.ln)]) :: Blk k (dC { d with ls := d.ls ++ [d.ln], ln := [] } (.slice none 0 0) v2 rv ev) 72 :: Sl encCV 1 v2 ((rs ++ [((⟨.slice va vn vm, cl⟩ : CV), d.ln)]).map (·.1)) :: Sl (encI .u8) 1 rv d.ra :: Sl (encI .u8) 1 ev d.ec :: F) h4 := by
      rw [rowsU, List.map_append, List.map_append]; exact s7
    refine H h4 (noLine (d := { d with ls := d.ls ++ [d.ln] }) (rs := rs ++ [(⟨.slice va vn vm, cl⟩, d.ln)]) (by rw [List.map_append, e]; rfl) s8.p2)
theorem flush_spec (s : HW.Sep h0 (Dc k d :: F) h) (H : ∀ h', HW.Sep h0 (Dc k d.flush :: F) h' → R unit h') : ldisc_Disc_Flush_c (ptr k 0) h R := by
  apply ldisc_Disc_Flush_runs
  unfold ldisc_Disc_Flush_S
  obtain ⟨lv, sv, rv, ev, rs, e, s⟩ := Dopen s
  simp only [ev_nil, ev_off, Nat.zero_add]
  refine s.st (Nat.le_of_ble_eq_true rfl) trivial (fun h1 s1 => ?_)
  refine s1.st (Nat.le_of_ble_eq_true rfl) trivial (fun h2 s2 => ?_)
  refine s2.st (Nat.le_of_ble_eq_true rfl) trivial (fun h3 s3 => ?_)
  have s4 : HW.Sep h0 (Blk k (dC d.flush (.slice none 0 0) (.slice none 0 0) (.slice none 0 0) ev) 72 :: Sl (encI .u8) 1 ev d.ec :: F) h3 := s3.drop1.drop1.drop1.drop1
  have s5 := sep_nil (enc := encI .u8) (sz := 1) (sep_nil (enc := encCV) (sz := 1) ((sep_nil (enc := encI .u8) (sz := 1) s4).shut_all (L := [])))
  exact H h3 (Dshut (d := d.flush) (rs := []) rfl s5.b4)
theorem clone_bytes {v : Value} {l : List Int} (q : HW.Rd (encI .u8) 1 h0 F v l) (s : HW.Sep h0 F h) (hl : l.length ≤ 1073741824) (H : ∀ v' h', Cell1 v' → HW.Sep h0 (Sl (encI .u8) 1 v' l :: F) h' → R v' h') : slices_Clone_byte_byte_c v h R := by
  apply slices_Clone_byte_byte_runs
  unfold slices_Clone_byte_byte_S
  have q0 := q.at0 s
  obtain ⟨a, n, m, rfl, hn, hm, hd⟩ := q0
  rw [ev_eqlNilS, ev_if]
  by_cases ha : a.isNone = true
  · rw [if_pos ha]
    have : l = [] := by
      rcases hd with h2 | ⟨b, o, rfl, _⟩
      · exact List.eq_nil_of_length_eq_zero (by omega)
      · cases ha
    subst this
    exact H _ h trivial (sep_nil s)
  · rw [if_neg ha]
    refine s.slit (enc := encI .u8) (sz := 1) (encI_len .u8) [] rfl rfl (fun v1 h1 _ s1 => ?_)
    refine s1.app (enc := encI .u8) (sz := 1) rfl (by decide) (encI_len .u8) (encI_cell .u8) (q.at1 s1) (by simp only [List.length_nil]; omega) (by decide) (fun v' h2 c2 s2 => ?_)
    exact H v' h2 c2 s2
theorem Line_spec (s : HW.Sep h0 (Dc k d :: F) h) (hb : d.wt ≤ 1073741000) (H : ∀ v h', HW.Sep h0 (Sl (encI .u8) 1 v d.ln :: Dc k d :: F) h' → R v h') : ldisc_Disc_Line_c (ptr k 0) h R := by
  apply ldisc_Disc_Line_runs
  unfold ldisc_Disc_Line_S
  obtain ⟨lv, sv, rv, ev, rs, e, s⟩ := Dopen s
  have f17 : ∀ {K : Value → Prop}, sLd h (ptr k 17) K = K lv := s.ld rfl
  rw [ev_nil, ev_off, Nat.zero_add, f17]
  unfold D.wt at hb
  refine clone_bytes (F := Blk k (dC d lv sv rv ev) 72 :: Sl (encI .u8) 1 lv d.ln :: Sl encCV 1 sv (rs.map (·.1)) :: rowsU rs :: Sl (encI .u8) 1 rv d.ra :: Sl (encI .u8) 1 ev d.ec :: F) Rd.own1 s (by omega) (fun v h1 cv s1 => ?_)
  refine H v h1 ?_
  have s2 : HW.Sep h0 (Blk k (dC d lv sv rv ev) 72 :: Sl (encI .u8) 1 lv d.ln :: Sl encCV 1 sv (rs.map (·.1)) :: rowsU rs :: Sl (encI .u8) 1 rv d.ra :: Sl (encI .u8) 1 ev d.ec :: Sl (encI .u8) 1 v d.ln :: F) h1 := s1.perm (List.perm_middle (l₁ := [_, _, _, _, _, _])).symm
  exact (Dshut e s2).b1
theorem isBlank_spec {c : Int} (H : R (.bool (blank c)) h) : ldisc_isBlank_c (.int .u8 c) h R := by
  apply ldisc_isBlank_runs
  unfold ldisc_isBlank_S
  simp only [ev_eq, ev_or_p]
  exact H
/-- How long the line is, as the heap says. -/
def lnAt (k : Nat) (h : Heap) : Nat := match h.at k 17 with | some (.slice _ n _) => n | _ => 0
theorem lnAt_eq (s : HW.Sep h0 (Dc k d :: F) h) : lnAt k h = d.ln.length := by
  obtain ⟨lv, sv, rv, ev, rs, e, s⟩ := Dopen s
  obtain ⟨va, vn, vm, rfl, hl, _⟩ := s.b1.seq
  have b : h.has k (dC d (.slice va vn vm) sv rv ev) 72 := s.has
  unfold lnAt
  have : h.at k 17 = some (.slice va vn vm) := by rw [b.at]; rfl
  rw [this]; exact hl.symm
theorem backWhile_spec {p : Int → Bool} {x : Value} (hx : ∀ (c : Int) (h' : Heap) (K : Value → Heap → Prop), K (.bool (p c)) h' → sCallV Try.prog x #[.int .u8 c] h' K) (s : HW.Sep h0 (Dc k d :: F) h) (hb : d.wt ≤ 1073741000) (H : ∀ h', HW.Sep h0 (Dc k (d.backWhile p) :: F) h' → R unit h') : ldisc_Disc_backWhile_c (ptr k 0) x h R := by
  apply ldisc_Disc_backWhile_runs
  unfold ldisc_Disc_backWhile_S
  refine ⟨fun _ h' => ∃ d' : D, d'.backWhile p = d.backWhile p ∧ d'.wt ≤ 1073741000 ∧ HW.Sep h0 (Dc k d' :: F) h', fun _ h' => lnAt k h', ⟨d, rfl, hb, s⟩, ?_⟩
  rintro _ h1 ⟨d', e', hb', s1⟩
  simp only []
  unfold ldisc_Disc_backWhile_l1
  obtain ⟨lv, sv, rv, ev, b, q, _, _⟩ := lens s1
  have f17 : ∀ {K : Value → Prop}, sLd h1 (ptr k 17) K = K lv := ev_ld_has b rfl
  have l17 : ∀ {K : Value → Prop}, sLen lv K = K (.int .i64 d'.ln.length) := fun {K} => q.len
  have wts := hb'
  unfold D.wt at wts
  simp only [ev_nil, ev_off, Nat.zero_add, f17, l17, ev_gt, ev_sub]
  have hd : decide ((d'.ln.length : Int) > 0) = !d'.ln.isEmpty := by cases d'.ln <;> simp
  rw [hd]
  have be := backWhile_eq d' p
  refine and_ext (y := p (d'.ln.getLastD 0)) (fun hne K' HK => ?_) (fun h2 e2 => ?_)
  · have hp : 0 < d'.ln.length := by cases hl : d'.ln with
      | nil => rw [hl] at hne; simp at hne
      | cons a b => simp
    have hg : d'.ln[d'.ln.length - 1]? = some (d'.ln.getLastD 0) := by
      rw [List.getLastD_eq_getLast?, List.getLast?_eq_getElem?, List.getElem?_eq_getElem (by omega)]; rfl
    rw [wrap_i64 (by omega) (by omega), show (d'.ln.length : Int) - 1 = ((d'.ln.length - 1 : Nat) : Int) by omega, Seq.ld q hg rfl]
    exact hx _ _ _ (HK _ (Ext.refl _))
  have s2 := s1.ext' e2
  rw [ev_if]
  by_cases hc : (!d'.ln.isEmpty && p (d'.ln.getLastD 0)) = true
  · rw [if_pos hc] at be ⊢
    have hne : d'.ln ≠ [] := by intro hl; rw [hl] at hc; simp at hc
    refine back_spec s2 hne (by omega) (fun h3 s3 => ?_)
    have := back_wt d' hne
    refine ⟨⟨d'.back, by rw [← e', be], by omega, s3⟩, ?_⟩
    rw [lnAt_eq s3, lnAt_eq s1, back_ln, List.length_dropLast]
    have hp : 0 < d'.ln.length := by cases hl : d'.ln with
      | nil => exact (hne hl).elim
      | cons a b => simp
    omega
  · rw [if_neg hc] at be ⊢
    rw [be] at e'
    rw [← e'] at H
    exact H h2 s2
theorem signal_spec {c : Int} (s : HW.Sep h0 (Dc k d :: F) h) (hc : 0 ≤ c ∧ c < 256) (H : ∀ h', HW.Sep h0 (Dc k d :: F) h' → R (.int .i64 (d.signal c)) h') : ldisc_Disc_signal_c (ptr k 0) (.int .u8 c) h R := by
  apply ldisc_Disc_signal_runs
  unfold ldisc_Disc_signal_S
  unfold D.signal at H
  refine local_spec s ?_
  rw [ev_not, ev_if]
  by_cases h1 : (!d.loc 64) = true
  · rw [if_pos h1] at H ⊢; exact H h s
  rw [if_neg h1] at H ⊢
  refine dis_spec s hc (fun h2 s2 => ?_)
  rw [ev_if]
  by_cases h2 : d.t.is 0 c = true
  · rw [if_pos h2] at H ⊢; exact H _ s2
  rw [if_neg h2] at H ⊢
  refine dis_spec s2 hc (fun h3 s3 => ?_)
  rw [ev_if]
  by_cases h3 : d.t.is 1 c = true
  · rw [if_pos h3] at H ⊢; exact H _ s3
  rw [if_neg h3] at H ⊢
  refine dis_spec s3 hc (fun h4 s4 => ?_)
  rw [ev_if]
  by_cases h4 : d.t.is 2 c = true
  · rw [if_pos h4] at H ⊢; exact H _ s4
  · rw [if_neg h4] at H ⊢; exact H _ s4
/-- Stopped, or not. -/
theorem st_spec {K : Heap → Prop} {b : Bool} (s : HW.Sep h0 (Dc k d :: F) h) (HK : ∀ h', HW.Sep h0 (Dc k { d with st := b } :: F) h' → K h') : sNil (ptr k 0) fun x => sOff x 20 fun x => sSt h x (.bool b) fun h' => K h' := by
  obtain ⟨lv, sv, rv, ev, rs, e, s⟩ := Dopen s
  rw [ev_nil, ev_off, Nat.zero_add]
  exact s.st (Nat.le_of_ble_eq_true rfl) trivial (fun h1 s1 => HK h1 (Dshut (d := { d with st := b }) e s1))
theorem nx_spec {K : Heap → Prop} {b : Bool} (s : HW.Sep h0 (Dc k d :: F) h) (HK : ∀ h', HW.Sep h0 (Dc k { d with nx := b } :: F) h' → K h') : sNil (ptr k 0) fun x => sOff x 21 fun x => sSt h x (.bool b) fun h' => K h' := by
  obtain ⟨lv, sv, rv, ev, rs, e, s⟩ := Dopen s
  rw [ev_nil, ev_off, Nat.zero_add]
  exact s.st (Nat.le_of_ble_eq_true rfl) trivial (fun h1 s1 => HK h1 (Dshut (d := { d with nx := b }) e s1))
theorem flow_spec {c : Int} (s : HW.Sep h0 (Dc k d :: F) h) (hc : 0 ≤ c ∧ c < 256) (H : ∀ h', HW.Sep h0 (Dc k (d.flow c).1 :: F) h' → R (.bool (d.flow c).2) h') : ldisc_Disc_flow_c (ptr k 0) (.int .u8 c) h R := by
  apply ldisc_Disc_flow_runs
  unfold ldisc_Disc_flow_S
  unfold D.flow at H
  refine in_spec s ?_
  rw [ev_not, ev_if]
  by_cases h1 : (!d.inn 16) = true
  · rw [if_pos h1] at H ⊢; exact H h s
  rw [if_neg h1] at H ⊢
  refine dis_spec s hc (fun h2 s2 => ?_)
  rw [ev_if]
  by_cases h2 : d.t.is 11 c = true
  · rw [if_pos h2] at H ⊢; exact st_spec s2 H
  rw [if_neg h2] at H ⊢
  refine dis_spec s2 hc (fun h3 s3 => ?_)
  rw [ev_if]
  by_cases h3 : d.t.is 10 c = true
  · rw [if_pos h3] at H ⊢; exact st_spec s3 H
  rw [if_neg h3] at H ⊢
  refine in_spec s3 ?_
  rw [ev_if]
  unfold ldisc_Disc_flow_j1
  by_cases h4 : d.inn 32 = true
  · rw [if_pos h4] at H ⊢; exact st_spec s3 H
  · rw [if_neg h4] at H ⊢; exact H _ s3
theorem show_ln (d : D) (c : Int) : (d.show c).ln = d.ln := by unfold D.show; split <;> rfl
theorem showAll_ln (l : List Int) : ∀ d : D, (d.showAll l).ln = d.ln := by
  unfold D.showAll
  induction l with
  | nil => intro d; rfl
  | cons a l ih => intro d; rw [List.foldl_cons, ih, show_ln]
theorem showAll_wt (l : List Int) : ∀ d : D, (d.showAll l).wt ≤ d.wt + 2 * l.length := by
  unfold D.showAll
  induction l with
  | nil => intro d; simp
  | cons a l ih =>
    intro d
    rw [List.foldl_cons, List.length_cons]
    have := ih (d.show a); have := show_wt d a; omega
theorem show_ls (d : D) (c : Int) : (d.show c).ls = d.ls := by unfold D.show; split <;> rfl
theorem show_ra (d : D) (c : Int) : (d.show c).ra = d.ra := by unfold D.show; split <;> rfl
theorem showAll_ls (l : List Int) : ∀ d : D, (d.showAll l).ls = d.ls := by
  unfold D.showAll
  induction l with
  | nil => intro d; rfl
  | cons a l ih => intro d; rw [List.foldl_cons, ih, show_ls]
theorem showAll_ra (l : List Int) : ∀ d : D, (d.showAll l).ra = d.ra := by
  unfold D.showAll
  induction l with
  | nil => intro d; rfl
  | cons a l ih => intro d; rw [List.foldl_cons, ih, show_ra]
theorem ext_j2 (s : HW.Sep h0 (Dc k d :: F) h) (hb : d.wt ≤ 500000000) (H : ∀ h', HW.Sep h0 (Dc k (d.showAll d.ln) :: F) h' → R (.bool true) h') : ldisc_Disc_extended_j2 R (ptr k 0) h := by
  unfold ldisc_Disc_extended_j2
  obtain ⟨lv, sv, rv, ev, rs, e, so⟩ := Dopen s
  have f17 : ∀ {K : Value → Prop}, sLd h (ptr k 17) K = K lv := so.ld rfl
  rw [ev_nil, ev_off, Nat.zero_add, f17, so.b1.seq.len]
  have wts := hb
  unfold D.wt at wts
  have step : ∀ i, i < d.ln.length → d.showAll (d.ln.take (i + 1)) = (d.showAll (d.ln.take i)).show (d.ln.getD i 0) := fun i hi => by
    have hg : d.ln[i]? = some (d.ln.getD i 0) := by rw [List.getD_eq_getElem?_getD, List.getElem?_eq_getElem hi]; rfl
    rw [List.take_add_one, hg]
    unfold D.showAll
    rw [List.foldl_append]; rfl
  refine ⟨fun t h' => ∃ (i : Nat) (ev' : Value), i ≤ d.ln.length ∧ t = .int .i64 i ∧ HW.Sep h0 (Blk k (dC (d.showAll (d.ln.take i)) lv sv rv ev') 72 :: Sl (encI .u8) 1 lv d.ln :: Sl encCV 1 sv (rs.map (·.1)) :: rowsU rs :: Sl (encI .u8) 1 rv d.ra :: Sl (encI .u8) 1 ev' (d.showAll (d.ln.take i)).ec :: F) h', fun t _ => match t with | .int _ i => (d.ln.length - i).toNat | _ => 0, ⟨0, ev, Nat.zero_le _, rfl, so⟩, ?_⟩
  rintro _ h1 ⟨i, ev', hi, rfl, s1⟩
  simp only []
  unfold ldisc_Disc_extended_l3
  rw [ev_lt, ev_if]
  by_cases hlt : i < d.ln.length
  · rw [if_pos (decide_eq_true (by omega))]
    have hg : d.ln[i]? = some (d.ln.getD i 0) := by rw [List.getD_eq_getElem?_getD, List.getElem?_eq_getElem hlt]; rfl
    rw [Seq.ld s1.b1.seq hg rfl]
    have w := showAll_wt (d.ln.take i) d
    rw [List.length_take] at w
    have s1' : HW.Sep h0 (Blk k (dC (d.showAll (d.ln.take i)) lv sv rv ev') 72 :: Sl (encI .u8) 1 lv (d.showAll (d.ln.take i)).ln :: Sl encCV 1 sv (rs.map (·.1)) :: rowsU rs :: Sl (encI .u8) 1 rv (d.showAll (d.ln.take i)).ra :: Sl (encI .u8) 1 ev' (d.showAll (d.ln.take i)).ec :: F) h1 := by rw [showAll_ln, showAll_ra]; exact s1
    refine show_o s1' (by unfold D.wt at w ⊢; omega) (fun ev2 h2 s2 => ?_)
    rw [← step i hlt, showAll_ln, showAll_ra] at s2
    rw [ev_add, wrap_i64 (by omega) (by omega)]
    exact ⟨⟨i + 1, ev2, hlt, by rw [Int.natCast_add]; rfl, s2⟩, by simp only; omega⟩
  · have : i = d.ln.length := by omega
    subst this
    rw [if_neg (by simp)]
    rw [List.take_of_length_le (Nat.le_refl _)] at s1
    unfold ldisc_Disc_extended_j1
    refine H h1 (Dshut (d := d.showAll d.ln) (rs := rs) (lv := lv) (sv := sv) (rv := rv) (ev := ev') (by rw [showAll_ls]; exact e) ?_)
    rw [showAll_ln, showAll_ra]; exact s1
theorem fn86 (c : Int) (h' : Heap) (K : Value → Heap → Prop) (H : K (.bool (blank c)) h') : sCallV Try.prog (.func (.func 86) #[] #[]) #[.int .u8 c] h' K := ⟨86, #[], #[], rfl, isBlank_spec (R := K) H⟩
theorem fn87 (c : Int) (h' : Heap) (K : Value → Heap → Prop) (H : K (.bool (!blank c)) h') : sCallV Try.prog (.func (.func 87) #[] #[]) #[.int .u8 c] h' K := by
  refine ⟨87, #[], #[], rfl, ?_⟩
  show ldisc_Disc_extended_1_c (.int .u8 c) h' K
  apply ldisc_Disc_extended_1_runs
  unfold ldisc_Disc_extended_1_S
  refine isBlank_spec ?_
  rw [ev_not]; exact H
theorem fn82 (c : Int) (h' : Heap) (K : Value → Heap → Prop) (H : K (.bool true) h') : sCallV Try.prog (.func (.func 82) #[] #[]) #[.int .u8 c] h' K := by
  refine ⟨82, #[], #[], rfl, ?_⟩
  show ldisc_Disc_edit_1_c (.int .u8 c) h' K
  apply ldisc_Disc_edit_1_runs
  unfold ldisc_Disc_edit_1_S
  exact H
theorem extended_spec {c : Int} (s : HW.Sep h0 (Dc k d :: F) h) (hc : 0 ≤ c ∧ c < 256) (hb : d.wt ≤ 400000000) (H : ∀ h', HW.Sep h0 (Dc k (d.extended c).1 :: F) h' → R (.bool (d.extended c).2) h') : ldisc_Disc_extended_c (ptr k 0) (.int .u8 c) h R := by
  apply ldisc_Disc_extended_runs
  unfold ldisc_Disc_extended_S
  unfold D.extended at H
  refine local_spec s ?_
  rw [ev_not, ev_if]
  by_cases h1 : (!d.loc 512) = true
  · rw [if_pos h1] at H ⊢; exact H h s
  rw [if_neg h1] at H ⊢
  refine dis_spec s hc (fun h2 s2 => ?_)
  rw [ev_if]
  by_cases h2 : d.t.is 9 c = true
  · rw [if_pos h2] at H ⊢
    refine nx_spec s2 (fun h3 s3 => ?_)
    refine local_spec s3 ?_
    rw [ev_if]
    unfold ldisc_Disc_extended_j1
    have el : ({ d with nx := true } : D).loc 2 = d.loc 2 := rfl
    rw [el]
    by_cases h3 : d.loc 2 = true
    · rw [if_pos h3] at H ⊢
      have ew : ({ d with nx := true } : D).wt = d.wt := rfl
      exact emit_spec s3 [94, 8] rfl ⟨rfl, Nat.le_of_ble_eq_true rfl, rfl, Nat.le_of_ble_eq_true rfl, rfl⟩ (by omega) (by decide) H
    · rw [if_neg h3] at H ⊢; exact H _ s3
  rw [if_neg h2] at H ⊢
  refine dis_spec s2 hc (fun h3 s3 => ?_)
  rw [ev_if]
  by_cases h3 : d.t.is 7 c = true
  · rw [if_pos h3] at H ⊢
    refine backWhile_spec (p := blank) fn86 s3 (by omega) (fun h4 s4 => ?_)
    have w := backWhile_wt d blank
    refine backWhile_spec (p := fun c => !blank c) fn87 s4 (by omega) (fun h5 s5 => ?_)
    unfold ldisc_Disc_extended_j1
    exact H h5 s5
  rw [if_neg h3] at H ⊢
  refine dis_spec s3 hc (fun h4 s4 => ?_)
  rw [ev_if]
  by_cases h4 : d.t.is 8 c = true
  · rw [if_pos h4] at H ⊢
    refine show_spec s4 (by omega) (fun h5 s5 => ?_)
    have w := show_wt d c
    unfold D.reprint at H
    rw [← show_ln d c] at H
    refine local_spec s5 ?_
    rw [ev_if]
    by_cases h5 : (d.show c).loc 2 = true
    · rw [if_pos h5] at H ⊢
      exact emit_spec s5 [10] rfl ⟨rfl, Nat.le_of_ble_eq_true rfl, rfl⟩ (by omega) (by decide) (fun h6 s6 => ext_j2 s6 (by rw [emit_wt]; simp; omega) H)
    · rw [if_neg h5] at H ⊢
      exact ext_j2 s5 (by omega) H
  · rw [if_neg h4] at H ⊢; exact H _ s4
theorem edit_j1 {c : Int} (s : HW.Sep h0 (Dc k d :: F) h) (hb : d.wt ≤ 1073741000) (H : ∀ h', HW.Sep h0 (Dc k (if (!d.loc 4) = true then d.show c else d) :: F) h' → R unit h') : ldisc_Disc_edit_j1 R (ptr k 0) (.int .u8 c) h := by
  unfold ldisc_Disc_edit_j1
  refine local_spec s ?_
  rw [ev_not, ev_if]
  by_cases h1 : (!d.loc 4) = true
  · rw [if_pos h1] at H ⊢; exact show_spec s (by omega) H
  · rw [if_neg h1] at H ⊢; exact H _ s
theorem edit_j2 (s : HW.Sep h0 (Dc k d :: F) h) (hb : d.wt ≤ 1073741000) (H : ∀ h', HW.Sep h0 (Dc k (if (d.loc 8 && d.loc 2) = true then d.emit [10] else d) :: F) h' → R unit h') : ldisc_Disc_edit_j2 R (ptr k 0) h := by
  unfold ldisc_Disc_edit_j2
  refine local_spec s ?_
  refine and_ext (y := d.loc 2) (fun _ K' HK => local_spec s (HK _ (Ext.refl _))) (fun h1 e1 => ?_)
  have s1 := s.ext' e1
  rw [ev_if]
  by_cases h1 : (d.loc 8 && d.loc 2) = true
  · rw [if_pos h1] at H ⊢; exact emit_spec s1 [10] rfl ⟨rfl, Nat.le_of_ble_eq_true rfl, rfl⟩ (by omega) (by decide) H
  · rw [if_neg h1] at H ⊢; exact H _ s1
theorem lnlen {K : Value → Prop} (s : HW.Sep h0 (Dc k d :: F) h) (H : K (.int .i64 d.ln.length)) : sNil (ptr k 0) fun x => sOff x 17 fun x => sLd h x fun x => sLen x K := by
  obtain ⟨lv, sv, rv, ev, b, q, _, _⟩ := lens s
  have f17 : ∀ {K : Value → Prop}, sLd h (ptr k 17) K = K lv := ev_ld_has b rfl
  rw [ev_nil, ev_off, Nat.zero_add, f17, q.len]; exact H
theorem edit_spec {c : Int} (s : HW.Sep h0 (Dc k d :: F) h) (hc : 0 ≤ c ∧ c < 256) (hb : d.wt ≤ 400000000) (H : ∀ h', HW.Sep h0 (Dc k (d.edit c) :: F) h' → R unit h') : ldisc_Disc_edit_c (ptr k 0) (.int .u8 c) h R := by
  apply ldisc_Disc_edit_runs
  unfold ldisc_Disc_edit_S
  refine extended_spec s hc hb (fun h1 s1 => ?_)
  unfold D.edit at H
  rw [ev_if]
  by_cases h1 : (d.extended c).2 = true
  · rw [if_pos h1] at H ⊢; exact H _ s1
  rw [if_neg h1] at H ⊢
  rw [extended_not (by simpa using h1)] at s1
  refine dis_spec s1 hc (fun h2 s2 => ?_)
  refine dis_spec s2 hc (fun h3 s3 => ?_)
  have hpos : decide ((d.ln.length : Int) > 0) = decide (0 < d.ln.length) := by rw [Bool.eq_iff_iff]; simp
  have ka : ∀ {K : Value → Prop} {x : Bool}, K (.bool (x && decide (0 < d.ln.length))) → sAnd (.bool x) (fun k_2 => sNil (ptr k 0) fun x20 => sOff x20 17 fun x21 => sLd h3 x21 fun x22 => sLen x22 fun x23 => sGt x23 (.int .i64 0) fun x24 => k_2 x24) K := by
    intro K x hK
    rw [ev_and]
    cases x with
    | false => exact hK
    | true => rw [if_pos rfl]; exact lnlen s3 (by rw [ev_gt, hpos]; exact hK)
  refine ka ?_
  refine and_ext (y := d.loc 4) (fun _ K' HK => local_spec s3 (HK _ (Ext.refl _))) (fun h4 e4 => ?_)
  have s4 := s3.ext' e4
  rw [ev_if]
  by_cases h2 : (d.t.is 5 c && decide (0 < d.ln.length) && d.loc 4) = true
  · rw [if_pos h2] at H ⊢
    have hne : d.ln ≠ [] := by intro hl; rw [hl] at h2; simp at h2
    exact back_spec s4 hne (by omega) H
  rw [if_neg h2] at H ⊢
  refine dis_spec s4 hc (fun h5 s5 => ?_)
  rw [ev_if]
  by_cases h3 : d.t.is 5 c = true
  · rw [if_pos h3] at H ⊢
    refine lnlen s5 ?_
    rw [ev_gt, hpos, ev_if]
    by_cases h4 : 0 < d.ln.length
    · rw [if_pos h4] at H
      rw [if_pos (decide_eq_true h4)]
      have hne : d.ln ≠ [] := by intro hl; rw [hl] at h4; simp at h4
      have w := back_wt d hne
      exact back_spec s5 hne (by omega) (fun h6 s6 => edit_j1 s6 (by omega) H)
    · rw [if_neg h4] at H
      rw [if_neg (by simpa using h4)]
      exact edit_j1 s5 (by omega) H
  rw [if_neg h3] at H ⊢
  rw [ev_if]
  by_cases h4 : d.t.is 6 c = true
  · rw [if_pos h4] at H ⊢
    unfold D.kill at H
    refine backWhile_spec (p := fun _ => true) fn82 s5 (by omega) (fun h6 s6 => ?_)
    have w := backWhile_wt d (fun _ => true)
    refine local_spec s6 ?_
    rw [ev_not, ev_if]
    simp only at H
    by_cases h5 : (!(d.backWhile fun _ => true).loc 4) = true
    · rw [if_pos h5] at H ⊢
      have w2 := show_wt (d.backWhile fun _ => true) c
      exact show_spec s6 (by omega) (fun h7 s7 => edit_j2 s7 (by omega) H)
    · rw [if_neg h5] at H ⊢
      exact edit_j2 s6 (by omega) H
  rw [if_neg h4] at H ⊢
  refine dis_spec s5 hc (fun h6 s6 => ?_)
  rw [ev_if]
  by_cases h5 : d.t.is 3 c = true
  · rw [if_pos h5] at H ⊢
    exact ready_spec s6 (by omega) H
  rw [if_neg h5] at H ⊢
  refine ends_spec s6 hc (fun h7 e7 => ?_)
  have s7 := s6.ext' e7
  rw [ev_if]
  have w := put_wt d c
  by_cases h6 : d.ends c = true
  · rw [if_pos h6] at H ⊢
    refine put_spec s7 hc (by omega) (fun h8 s8 => ?_)
    rw [ev_if]
    by_cases h7 : (d.put c).2 = true
    · rw [if_pos h7] at H ⊢; exact ready_spec s8 (by omega) H
    · rw [if_neg h7] at H ⊢; exact H _ s8
  · rw [if_neg h6] at H ⊢
    exact put_spec s7 hc (by omega) H
theorem flush_wt (d : D) : d.flush.wt ≤ d.wt := by unfold D.flush D.wt sumL; simp; omega
theorem byte_spec {c : Int} (s : HW.Sep h0 (Dc k d :: F) h) (hc : 0 ≤ c ∧ c < 256) (hb : d.wt ≤ 300000000) (H : ∀ h', HW.Sep h0 (Dc k (d.byte c).1 :: F) h' → R (.int .i64 (d.byte c).2) h') : ldisc_Disc_byte_c (ptr k 0) (.int .u8 c) h R := by
  apply ldisc_Disc_byte_runs
  unfold ldisc_Disc_byte_S
  unfold D.byte at H
  obtain ⟨lv, sv, rv, ev, b⟩ := Dhas s
  have f21 : ∀ {K : Value → Prop}, sLd h (ptr k 21) K = K (.bool d.nx) := ev_ld_has b rfl
  rw [ev_nil, ev_off, Nat.zero_add, f21, ev_if]
  by_cases h1 : d.nx = true
  · rw [if_pos h1] at H ⊢
    refine nx_spec s (fun h2 s2 => ?_)
    refine in_spec s2 ?_
    rw [ev_if]
    have el : ({ d with nx := false } : D).inn 1 = d.inn 1 := rfl
    have ew : ({ d with nx := false } : D).wt = d.wt := rfl
    rw [el]
    unfold ldisc_Disc_byte_j1
    by_cases h2 : d.inn 1 = true
    · rw [if_pos h2] at H ⊢
      rw [ev_bits, and_127 c hc.1 hc.2]
      exact put_spec s2 (by omega) (by omega) H
    · rw [if_neg h2] at H ⊢
      exact put_spec s2 hc (by omega) H
  rw [if_neg h1] at H ⊢
  rw [ev_nil, ev_off, Nat.zero_add, dt_ld b]
  refine map_spec hc (fun h2 e2 => ?_)
  have s2 := s.ext' e2
  have mr := map_rng d.t hc
  rw [tup0, tup1]
  generalize d.t.map c = m at H mr
  obtain ⟨v, told⟩ := m
  simp only at H mr ⊢
  rw [ev_not, ev_orh]
  cases told with
  | false =>
    rw [if_pos rfl] at H
    rw [if_pos (by decide)]
    show sIf (.bool true) _ _
    rw [ev_if, if_pos rfl]
    exact H _ s2
  | true =>
    rw [if_neg (by decide)] at H
    rw [if_neg (by decide)]
    have fw := flow_wt d v
    refine flow_spec s2 mr (fun h3 s3 => ?_)
    show sIf (.bool (d.flow v).2) _ _
    rw [ev_if]
    generalize d.flow v = fd at H s3 fw
    obtain ⟨d1, stop⟩ := fd
    simp only at H s3 fw ⊢
    cases stop with
    | true =>
      rw [if_pos rfl] at H
      rw [if_pos rfl]
      exact H _ s3
    | false =>
      rw [if_neg (by decide)] at H
      rw [if_neg (by decide)]
      refine signal_spec s3 mr (fun h4 s4 => ?_)
      rw [ev_ne, ev_if]
      by_cases hs : d1.signal v ≠ 0
      · rw [if_pos hs] at H
        rw [if_pos (by simpa using hs)]
        unfold ldisc_Disc_byte_j2
        have w := show_wt d1 v
        refine show_spec s4 (by omega) (fun h5 s5 => ?_)
        refine local_spec s5 ?_
        rw [ev_not, ev_if]
        unfold D.sig at H
        by_cases h7 : (!(d1.show v).loc 128) = true
        · rw [if_pos h7] at H ⊢
          refine flush_spec s5 (fun h6 s6 => ?_)
          exact st_spec s6 H
        · rw [if_neg h7] at H ⊢
          exact H _ s5
      · rw [if_neg hs] at H
        rw [if_neg (by simpa using hs)]
        refine local_spec s4 ?_
        rw [ev_if]
        unfold ldisc_Disc_byte_j3
        by_cases h8 : d1.loc 1 = true
        · rw [if_pos h8] at H ⊢
          exact edit_spec s4 mr (by omega) H
        · rw [if_neg h8] at H ⊢
          exact put_spec s4 mr (by omega) H
/-- What is shown is handed out. -/
theorem input_spec {c : Int} (s : HW.Sep h0 (Dc k d :: F) h) (hc : 0 ≤ c ∧ c < 256) (hb : d.wt ≤ 300000000) (H : ∀ v h', HW.Sep h0 (Dc k (d.input c).1 :: F) h' → Seq (encI .u8) 1 h' v (d.input c).1.ec → R (.tuple #[v, .int .i64 (d.input c).2]) h') : ldisc_Disc_Input_c (ptr k 0) (.int .u8 c) h R := by
  apply ldisc_Disc_Input_runs
  unfold ldisc_Disc_Input_S
  obtain ⟨lv, sv, rv, ev, rs, e, so⟩ := Dopen s
  rw [ev_nil, ev_off, Nat.zero_add]
  refine so.st (Nat.le_of_ble_eq_true rfl) trivial (fun h1 s1 => ?_)
  have s2 : HW.Sep h0 (Dc k { d with ec := [] } :: F) h1 := by
    have s1' : HW.Sep h0 (Blk k (dC { d with ec := [] } lv sv rv (.slice none 0 0)) 72 :: Sl (encI .u8) 1 lv d.ln :: Sl encCV 1 sv (rs.map (·.1)) :: rowsU rs :: Sl (encI .u8) 1 rv d.ra :: Sl (encI .u8) 1 ev d.ec :: F) h1 := s1
    exact Dshut (d := { d with ec := [] }) e (p5 (sep_nil s1'.b5.tail))
  refine byte_spec s2 hc (by unfold D.wt at hb ⊢; simp only [List.length_nil]; omega) (fun h2 s3 => ?_)
  obtain ⟨lv', sv', rv', ev', b, _, _, q⟩ := lens s3
  have f22 : ∀ {K : Value → Prop}, sLd h2 (ptr k 22) K = K ev' := ev_ld_has b rfl
  rw [ev_nil, ev_off, Nat.zero_add, f22]
  exact H ev' h2 s3 q
/-- What is shown lies in the discipline. -/
theorem input_o {c : Int} (s : HW.Sep h0 (Dc k d :: F) h) (hc : 0 ≤ c ∧ c < 256) (hb : d.wt ≤ 300000000) (H : ∀ lv sv rv ev, ∀ (rs : List (CV × List Int)) h', rs.map (·.2) = (d.input c).1.ls → HW.Sep h0 (Blk k (dC (d.input c).1 lv sv rv ev) 72 :: Sl (encI .u8) 1 lv (d.input c).1.ln :: Sl encCV 1 sv (rs.map (·.1)) :: rowsU rs :: Sl (encI .u8) 1 rv (d.input c).1.ra :: Sl (encI .u8) 1 ev (d.input c).1.ec :: F) h' → R (.tuple #[ev, .int .i64 (d.input c).2]) h') : ldisc_Disc_Input_c (ptr k 0) (.int .u8 c) h R := by
  apply ldisc_Disc_Input_runs
  unfold ldisc_Disc_Input_S
  obtain ⟨lv, sv, rv, ev, rs, e, so⟩ := Dopen s
  rw [ev_nil, ev_off, Nat.zero_add]
  refine so.st (Nat.le_of_ble_eq_true rfl) trivial (fun h1 s1 => ?_)
  have s2 : HW.Sep h0 (Dc k { d with ec := [] } :: F) h1 := by
    have s1' : HW.Sep h0 (Blk k (dC { d with ec := [] } lv sv rv (.slice none 0 0)) 72 :: Sl (encI .u8) 1 lv d.ln :: Sl encCV 1 sv (rs.map (·.1)) :: rowsU rs :: Sl (encI .u8) 1 rv d.ra :: Sl (encI .u8) 1 ev d.ec :: F) h1 := s1
    exact Dshut (d := { d with ec := [] }) e (p5 (sep_nil s1'.b5.tail))
  refine byte_spec s2 hc (by unfold D.wt at hb ⊢; simp only [List.length_nil]; omega) (fun h2 s3 => ?_)
  obtain ⟨lv', sv', rv', ev', rs', e', so'⟩ := Dopen s3
  have f22 : ∀ {K : Value → Prop}, sLd h2 (ptr k 22) K = K ev' := so'.ld rfl
  rw [ev_nil, ev_off, Nat.zero_add, f22]
  exact H lv' sv' rv' ev' rs' h2 e' so'
theorem new_spec {t : Tm} (s : HW.Sep h0 F h) (H0 : t.right = false → ∀ h', HW.Sep h0 F h' → R (.pointer none) h') (H1 : t.right = true → ∀ k h', HW.Sep h0 (Dc k (D0 t) :: F) h' → R (ptr k 0) h') : ldisc_New_c t.v h R := by
  apply ldisc_New_runs
  unfold ldisc_New_S
  refine s.box (c := t.c) rfl (fun k1 h1 s1 => ?_)
  rw [s1.ldall (n := 17) rfl]
  refine tright_spec (fun h2 e2 => ?_)
  have s2 := s1.ext' e2
  rw [ev_not, ev_if]
  cases ht : t.right with
  | false => rw [if_pos (by decide)]; exact H0 ht h2 s2.tail
  | true =>
    rw [if_neg (by decide), s2.ldall (n := 17) rfl]
    refine build_intro (cs := dC (D0 t) (.slice none 0 0) (.slice none 0 0) (.slice none 0 0) (.slice none 0 0)) (fill_k (by kernel_rfl)) ?_
    refine s2.tail.box (c := dC (D0 t) (.slice none 0 0) (.slice none 0 0) (.slice none 0 0) (.slice none 0 0)) rfl (fun k h3 s3 => ?_)
    have s4 := sep_nil (enc := encI .u8) (sz := 1) (sep_nil (enc := encCV) (sz := 1) ((sep_nil (enc := encI .u8) (sz := 1) (sep_nil (enc := encI .u8) (sz := 1) s3)).shut_all (L := [])))
    exact H1 ht k h3 (Dshut (d := D0 t) (rs := []) rfl s4.b5)
end
end Go.Proofs.Ytlcklnbgknhhkaa

end

section
/- The shallow reading of one function, and that the function does it. Written by a program. -/
set_option linter.unusedVariables false
namespace Go.Proofs.Ytlcklnbgknhhkaa
open Go Go.HW

def ldisc_Disc_Read_j1 (R : Value → Heap → Prop) (x59 x47 : Value) (h_5 : Heap) : Prop :=
  sLen x47 fun x78 =>
  sEq x78 (.int .i64 0) fun x79 =>
  R (.tuple #[x59, x79]) h_5
def ldisc_Disc_Read_S (x0 x1 : Value) (h : Heap) (R : Value → Heap → Prop) : Prop :=
  sLt x1 (.int .i64 1) fun x8 =>
  sIf x8 (R (.tuple #[(.slice none 0 0), (.bool false)]) h) (ldisc_Disc_local_c x0 (.int .i64 1) h fun x10 h => 
  sNot x10 fun x11 =>
  sIf x11 (sNil x0 fun x14 =>
  sOff x14 19 fun x15 =>
  sLd h x15 fun x16 =>
  sLen x16 fun x17 =>
  sMin x1 x17 fun x18 =>
  ∃ C : Heap → Prop, C h ∧ (sNil x0 fun x21 =>
  sOff x21 19 fun x22 =>
  sLd h x22 fun x23 =>
  sSl x23 none (some x18) 1 fun x25 =>
  slices_Clone_byte_byte_c x25 h fun x26 h_1 => C h_1 ∧ (
  sNil x0 fun x28 =>
  sOff x28 19 fun x29 =>
  sLdC C x29 fun x30 =>
  sSl x30 (some x18) none 1 fun x32 =>
  sNil x0 fun x33 =>
  sOff x33 19 fun x34 =>
  sSt h_1 x34 x32 fun h_2 => 
  R (.tuple #[x26, (.bool false)]) h_2))) (sNil x0 fun x37 =>
  sOff x37 18 fun x38 =>
  sLd h x38 fun x39 =>
  sLen x39 fun x40 =>
  sEq x40 (.int .i64 0) fun x41 =>
  sIf x41 (R (.tuple #[(.slice none 0 0), (.bool false)]) h) (sNil x0 fun x43 =>
  sOff x43 18 fun x44 =>
  sLd h x44 fun x45 =>
  sIxS x45 (.int .i64 0) 1 fun x46 =>
  sLd h x46 fun x47 =>
  sLen x47 fun x50 =>
  sMin x1 x50 fun x51 =>
  ∃ C_1 : Heap → Prop, C_1 h ∧ (sNil x0 fun x53 =>
  sOff x53 18 fun x54 =>
  sLdC C_1 x54 fun x55 =>
  sSl x47 none (some x51) 1 fun x58 =>
  slices_Clone_byte_byte_c x58 h fun x59 h_3 => C_1 h_3 ∧ (
  sSl x47 (some x51) none 1 fun x62 =>
  sIxS x55 (.int .i64 0) 1 fun x63 =>
  sSt h_3 x63 x62 fun h_4 => 
  sLen x47 fun x66 =>
  sEq x51 x66 fun x67 =>
  sIf x67 (sNil x0 fun x70 =>
  sOff x70 18 fun x71 =>
  sLd h_4 x71 fun x72 =>
  sSl x72 (some (.int .i64 1)) none 1 fun x73 =>
  sNil x0 fun x74 =>
  sOff x74 18 fun x75 =>
  sSt h_4 x75 x73 fun h_6 => 
  ldisc_Disc_Read_j1 R x59 x47 h_6) (ldisc_Disc_Read_j1 R x59 x47 h_4))))))
set_option maxRecDepth 100000 in
theorem ldisc_Disc_Read_runs {x0 x1 : Value} {h : Heap} {R : Value → Heap → Prop} (H : ldisc_Disc_Read_S x0 x1 h R) : ldisc_Disc_Read_c x0 x1 h R := by
  unfold ldisc_Disc_Read_S at H
  refine runs_of (b := ⟨([x0, x1, undef, undef, undef, undef, undef, undef, undef, undef, undef, undef, undef, undef, undef, undef, undef, undef, undef, undef, undef, undef, undef, undef, undef, undef, undef, undef, undef, undef, undef, undef, undef, undef, undef, undef, undef, undef, undef, undef, undef, undef, undef, undef, undef, undef, undef, undef, undef, undef] ++ [undef, undef, undef, undef, undef, undef, undef, undef, undef, undef, undef, undef, undef, undef, undef, undef, undef, undef, undef, undef, undef, undef, undef, undef, undef, undef, undef, undef, undef, undef]).toArray, []⟩) Try.call16 Try.func16 rfl (by kernel_rfl) (fun w0 HA => ?_)
  refine wp_seq ?_
  refine lwp_list ?_
  refine ls_assign (x := (.slice none 0 0)) (by kernel_rfl) (by kernel_rfl) ?_
  refine ls_assign (x := (.bool false)) (by kernel_rfl) (by kernel_rfl) ?_
  refine ls_nil ?_
  refine then_normal ?_
  refine fr_eq (b := ⟨([x0, x1, undef, undef, (.slice none 0 0), (.bool false), undef, undef, undef, undef, undef, undef, undef, undef, undef, undef, undef, undef, undef, undef, undef, undef, undef, undef, undef, undef, undef, undef, undef, undef, undef, undef, undef, undef, undef, undef, undef, undef, undef, undef, undef, undef, undef, undef, undef, undef, undef, undef, undef, undef] ++ [undef, undef, undef, undef, undef, undef, undef, undef, undef, undef, undef, undef, undef, undef, undef, undef, undef, undef, undef, undef, undef, undef, undef, undef, undef, undef, undef, undef, undef, undef]).toArray, []⟩) (by kernel_rfl) ?_
  refine wp_seq ?_
  refine wp_seq ?_
  refine lwp_list ?_
  refine ls_move (x := x1) (by kernel_rfl) (by kernel_rfl) ?_
  refine ls_p (d := some 8) (by kernel_rfl) (by kernel_rfl) (p_sLt (by kernel_rfl) (by kernel_rfl) H) (fun x8 H => ?_)
  refine ls_nil ?_
  refine then_normal ?_
  refine fr_eq (b := ⟨([x0, x1, undef, undef, (.slice none 0 0), (.bool false), undef, x1, x8, undef, undef, undef, undef, undef, undef, undef, undef, undef, undef, undef, undef, undef, undef, undef, undef, undef, undef, undef, undef, undef, undef, undef, undef, undef, undef, undef, undef, undef, undef, undef, undef, undef, undef, undef, undef, undef, undef, undef, undef, undef] ++ [undef, undef, undef, undef, undef, undef, undef, undef, undef, undef, undef, undef, undef, undef, undef, undef, undef, undef, undef, undef, undef, undef, undef, undef, undef, undef, undef, undef, undef, undef]).toArray, []⟩) (by kernel_rfl) ?_
  refine wp_if rfl H (fun H => ?_) (fun H => ?_)
  · refine wp_seq ?_
    refine lwp_list ?_
    refine ls_assign (x := (.slice none 0 0)) (by kernel_rfl) (by kernel_rfl) ?_
    refine ls_assign (x := (.bool false)) (by kernel_rfl) (by kernel_rfl) ?_
    refine ls_nil ?_
    refine then_normal ?_
    refine fr_eq (b := ⟨([x0, x1, undef, undef, (.slice none 0 0), (.bool false), undef, x1, x8, undef, undef, undef, undef, undef, undef, undef, undef, undef, undef, undef, undef, undef, undef, undef, undef, undef, undef, undef, undef, undef, undef, undef, undef, undef, undef, undef, undef, undef, undef, undef, undef, undef, undef, undef, undef, undef, undef, undef, undef, undef] ++ [undef, undef, undef, undef, undef, undef, undef, undef, undef, undef, undef, undef, undef, undef, undef, undef, undef, undef, undef, undef, undef, undef, undef, undef, undef, undef, undef, undef, undef, undef]).toArray, []⟩) (by kernel_rfl) ?_
    refine wp_ret ?_
    refine then_ret ?_
    exact end2 (Try.results16) (by kernel_rfl) (by kernel_rfl) (by kernel_rfl) HA H _ (.inr rfl)
  · refine wp_skip ?_
    refine then_normal ?_
    refine fr_eq (b := ⟨([x0, x1, undef, undef, (.slice none 0 0), (.bool false), undef, x1, x8, undef, undef, undef, undef, undef, undef, undef, undef, undef, undef, undef, undef, undef, undef, undef, undef, undef, undef, undef, undef, undef, undef, undef, undef, undef, undef, undef, undef, undef, undef, undef, undef, undef, undef, undef, undef, undef, undef, undef, undef, undef] ++ [undef, undef, undef, undef, undef, undef, undef, undef, undef, undef, undef, undef, undef, undef, undef, undef, undef, undef, undef, undef, undef, undef, undef, undef, undef, undef, undef, undef, undef, undef]).toArray, []⟩) (by kernel_rfl) ?_
    refine wp_seq ?_
    refine wp_seq ?_
    refine lwp_list ?_
    refine ls_move (x := x0) (by kernel_rfl) (by kernel_rfl) ?_
    refine ls_d (d := some 10) (by kernel_rfl) (by kernel_rfl) HA (d_call (by kernel_rfl) (by kernel_rfl) H) (fun x10 h w H HA => ?_)
    refine ls_p (d := some 11) (by kernel_rfl) (by kernel_rfl) (p_not (by kernel_rfl) H) (fun x11 H => ?_)
    refine ls_nil ?_
    refine then_normal ?_
    refine fr_eq (b := ⟨([x0, x1, undef, undef, (.slice none 0 0), (.bool false), undef, x1, x8, x0, x10, x11, undef, undef, undef, undef, undef, undef, undef, undef, undef, undef, undef, undef, undef, undef, undef, undef, undef, undef, undef, undef, undef, undef, undef, undef, undef, undef, undef, undef, undef, undef, undef, undef, undef, undef, undef, undef, undef, undef] ++ [undef, undef, undef, undef, undef, undef, undef, undef, undef, undef, undef, undef, undef, undef, undef, undef, undef, undef, undef, undef, undef, undef, undef, undef, undef, undef, undef, undef, undef, undef]).toArray, []⟩) (by kernel_rfl) ?_
    refine wp_if rfl H (fun H => ?_) (fun H => ?_)
    · refine wp_seq ?_
      refine lwp_list ?_
      refine ls_move (x := x1) (by kernel_rfl) (by kernel_rfl) ?_
      refine ls_move (x := x0) (by kernel_rfl) (by kernel_rfl) ?_
      refine ls_p (d := some 14) (by kernel_rfl) (by kernel_rfl) (p_nil (by kernel_rfl) H) (fun x14 H => ?_)
      refine ls_p (d := some 15) (by kernel_rfl) (by kernel_rfl) (p_off Try.underlying72 rfl (fun w => ⟨_, Try.sizeOf30 w⟩) rfl (by kernel_rfl) H) (fun x15 H => ?_)
      refine ls_y (d := some 16) (by kernel_rfl) (by kernel_rfl) HA (y_ld Try.isAgg30 (by kernel_rfl) H) (fun x16 H => ?_)
      refine ls_p (d := some 17) (by kernel_rfl) (by kernel_rfl) (p_len Try.underlying30 (by kernel_rfl) H) (fun x17 H => ?_)
      refine ls_fr (b := ⟨([x0, x1, undef, undef, (.slice none 0 0), (.bool false), undef, x1, x8, x0, x10, x11, x1, x0, x14, x15, x16, x17, undef, undef, undef, undef, undef, undef, undef, undef, undef, undef, undef, undef, undef, undef, undef, undef, undef, undef, undef, undef, undef, undef, undef, undef, undef, undef, undef, undef, undef, undef, undef, undef] ++ [undef, undef, undef, undef, undef, undef, undef, undef, undef, undef, undef, undef, undef, undef, undef, undef, undef, undef, undef, undef, undef, undef, undef, undef, undef, undef, undef, undef, undef, undef]).toArray, []⟩) (by kernel_rfl) ?_
      refine ls_p (d := some 18) (by kernel_rfl) (by kernel_rfl) (p_min (by kernel_rfl) (by kernel_rfl) H) (fun x18 H => ?_)
      refine ls_assign (x := x18) (by kernel_rfl) (by kernel_rfl) ?_
      refine ls_nil ?_
      refine then_normal ?_
      refine fr_eq (b := ⟨([x0, x18, undef, undef, (.slice none 0 0), (.bool false), undef, x1, x8, x0, x10, x11, x1, x0, x14, x15, x16, x17, x18, undef, undef, undef, undef, undef, undef, undef, undef, undef, undef, undef, undef, undef, undef, undef, undef, undef, undef, undef, undef, undef, undef, undef, undef, undef, undef, undef, undef, undef, undef, undef] ++ [undef, undef, undef, undef, undef, undef, undef, undef, undef, undef, undef, undef, undef, undef, undef, undef, undef, undef, undef, undef, undef, undef, undef, undef, undef, undef, undef, undef, undef, undef]).toArray, []⟩) (by kernel_rfl) ?_
      refine wp_seq ?_
      obtain ⟨C, HC, H⟩ := H
      refine lwp_mx (Nat.testBit 131200) (Nat.testBit 128) (Nat.testBit 128879) [0, 0, 2, 6, 14, 0, 62, 126, 0, 256, 768, 1792, 0, 7936, 254, 32767, 65535, 131071] (Nat.testBit 16) C [0, 1, 2, 3, 4, 5, 6, 7, 8, 9, 10, 11, 12, 13, 14, 15, 16, 17] (by kernel_rfl) (by kernel_rfl) (by kernel_rfl) (by kernel_rfl) HA HC ?_
      intro w_1 HA_1
      refine lm_al (x := x0) (d := some 19) (by kernel_rfl) rfl (by kernel_rfl) (by kernel_rfl) (al_move (by kernel_rfl)) ?_
      refine lm_al (x := x0) (d := some 20) (by kernel_rfl) rfl (by kernel_rfl) (by kernel_rfl) (al_move (by kernel_rfl)) ?_
      refine lm_p (d := some 21) (by kernel_rfl) rfl (by kernel_rfl) (by kernel_rfl) (p_nil (by kernel_rfl) H) (fun x21 H => ?_)
      refine lm_p (d := some 22) (by kernel_rfl) rfl (by kernel_rfl) (by kernel_rfl) (p_off Try.underlying72 rfl (fun w => ⟨_, Try.sizeOf30 w⟩) rfl (by kernel_rfl) H) (fun x22 H => ?_)
      refine lm_b (d := some 23) (by kernel_rfl) rfl (by kernel_rfl) (by kernel_rfl) (by kernel_rfl) (by kernel_rfl) (y_ld Try.isAgg30 (by kernel_rfl) H) (fun x23 H => ?_)
      refine lm_al (x := x18) (d := some 24) (by kernel_rfl) rfl (by kernel_rfl) (by kernel_rfl) (al_move (by kernel_rfl)) ?_
      refine lm_fr (b := ⟨([x0, x18, undef, undef, (.slice none 0 0), (.bool false), undef, x1, x8, x0, x10, x11, x1, x0, x14, x15, x16, x17, x18, x0, x0, x21, x22, x23, x18, undef, undef, undef, undef, undef, undef, undef, undef, undef, undef, undef, undef, undef, undef, undef, undef, undef, undef, undef, undef, undef, undef, undef, undef, undef] ++ [undef, undef, undef, undef, undef, undef, undef, undef, undef, undef, undef, undef, undef, undef, undef, undef, undef, undef, undef, undef, undef, undef, undef, undef, undef, undef, undef, undef, undef, undef]).toArray, []⟩) (by kernel_rfl) ?_
      refine lm_p (d := some 25) (by kernel_rfl) rfl (by kernel_rfl) (by kernel_rfl) (p_sl Try.underlying30 Try.sizeOf5 (by kernel_rfl) (by kernel_rfl) (by kernel_rfl) H) (fun x25 H => ?_)
      refine lm_dc (d := some 26) (by kernel_rfl) rfl (by kernel_rfl) (by kernel_rfl) (by kernel_rfl) HA_1 (d_call (by kernel_rfl) (by kernel_rfl) H) (fun x26 h_1 w_2 H HA_2 => ?_)
      refine lm_al (x := x0) (d := some 27) (by kernel_rfl) rfl (by kernel_rfl) (by kernel_rfl) (al_move (by kernel_rfl)) ?_
      refine lm_p (d := some 28) (by kernel_rfl) rfl (by kernel_rfl) (by kernel_rfl) (p_nil (by kernel_rfl) H) (fun x28 H => ?_)
      refine lm_p (d := some 29) (by kernel_rfl) rfl (by kernel_rfl) (by kernel_rfl) (p_off Try.underlying72 rfl (fun w => ⟨_, Try.sizeOf30 w⟩) rfl (by kernel_rfl) H) (fun x29 H => ?_)
      refine lm_f (d := some 30) (by kernel_rfl) rfl (by kernel_rfl) (by kernel_rfl) (by kernel_rfl) (by kernel_rfl) (c_ld Try.isAgg30 (by kernel_rfl) H) (fun x30 H => ?_)
      refine lm_fr (b := ⟨([x0, x18, undef, undef, (.slice none 0 0), (.bool false), undef, x1, x8, x0, x10, x11, x1, x0, x14, x15, x16, x17, x18, x0, x0, x21, x22, x23, x18, x25, x26, x0, x28, x29, x30, undef, undef, undef, undef, undef, undef, undef, undef, undef, undef, undef, undef, undef, undef, undef, undef, undef, undef, undef] ++ [undef, undef, undef, undef, undef, undef, undef, undef, undef, undef, undef, undef, undef, undef, undef, undef, undef, undef, undef, undef, undef, undef, undef, undef, undef, undef, undef, undef, undef, undef]).toArray, []⟩) (by kernel_rfl) ?_
      refine lm_al (x := x18) (d := some 31) (by kernel_rfl) rfl (by kernel_rfl) (by kernel_rfl) (al_move (by kernel_rfl)) ?_
      refine lm_p (d := some 32) (by kernel_rfl) rfl (by kernel_rfl) (by kernel_rfl) (p_sl Try.underlying30 Try.sizeOf5 (by kernel_rfl) (by kernel_rfl) (by kernel_rfl) H) (fun x32 H => ?_)
      refine lm_al (x := x26) (d := some 4) (by kernel_rfl) rfl (by kernel_rfl) (by kernel_rfl) (al_assign (by kernel_rfl)) ?_
      refine lm_p (d := some 33) (by kernel_rfl) rfl (by kernel_rfl) (by kernel_rfl) (p_nil (by kernel_rfl) H) (fun x33 H => ?_)
      refine lm_p (d := some 34) (by kernel_rfl) rfl (by kernel_rfl) (by kernel_rfl) (p_off Try.underlying72 rfl (fun w => ⟨_, Try.sizeOf30 w⟩) rfl (by kernel_rfl) H) (fun x34 H => ?_)
      refine lm_d (d := none) (by kernel_rfl) rfl (by kernel_rfl) (by kernel_rfl) (by kernel_rfl) HA_2 (d_st Try.sizeOf30 (by kernel_rfl) (by kernel_rfl) H) (fun _ h_2 w_3 H HA_3 => ?_)
      refine lm_nil ?_
      refine then_normal ?_
      refine fr_eq (b := ⟨([x0, x18, undef, undef, x26, (.bool false), undef, x1, x8, x0, x10, x11, x1, x0, x14, x15, x16, x17, x18, x0, x0, x21, x22, x23, x18, x25, x26, x0, x28, x29, x30, x18, x32, x33, x34, undef, undef, undef, undef, undef, undef, undef, undef, undef, undef, undef, undef, undef, undef, undef] ++ [undef, undef, undef, undef, undef, undef, undef, undef, undef, undef, undef, undef, undef, undef, undef, undef, undef, undef, undef, undef, undef, undef, undef, undef, undef, undef, undef, undef, undef, undef]).toArray, []⟩) (by kernel_rfl) ?_
      refine wp_seq ?_
      refine lwp_list ?_
      refine ls_move (x := x26) (by kernel_rfl) (by kernel_rfl) ?_
      refine ls_assign (x := x26) (by kernel_rfl) (by kernel_rfl) ?_
      refine ls_assign (x := (.bool false)) (by kernel_rfl) (by kernel_rfl) ?_
      refine ls_nil ?_
      refine then_normal ?_
      refine fr_eq (b := ⟨([x0, x18, undef, undef, x26, (.bool false), undef, x1, x8, x0, x10, x11, x1, x0, x14, x15, x16, x17, x18, x0, x0, x21, x22, x23, x18, x25, x26, x0, x28, x29, x30, x18, x32, x33, x34, x26, undef, undef, undef, undef, undef, undef, undef, undef, undef, undef, undef, undef, undef, undef] ++ [undef, undef, undef, undef, undef, undef, undef, undef, undef, undef, undef, undef, undef, undef, undef, undef, undef, undef, undef, undef, undef, undef, undef, undef, undef, undef, undef, undef, undef, undef]).toArray, []⟩) (by kernel_rfl) ?_
      refine wp_ret ?_
      refine then_ret ?_
      exact end2 (Try.results16) (by kernel_rfl) (by kernel_rfl) (by kernel_rfl) HA_3 H _ (.inr rfl)
    · refine wp_skip ?_
      refine then_normal ?_
      refine fr_eq (b := ⟨([x0, x1, undef, undef, (.slice none 0 0), (.bool false), undef, x1, x8, x0, x10, x11, undef, undef, undef, undef, undef, undef, undef, undef, undef, undef, undef, undef, undef, undef, undef, undef, undef, undef, undef, undef, undef, undef, undef, undef, undef, undef, undef, undef, undef, undef, undef, undef, undef, undef, undef, undef, undef, undef] ++ [undef, undef, undef, undef, undef, undef, undef, undef, undef, undef, undef, undef, undef, undef, undef, undef, undef, undef, undef, undef, undef, undef, undef, undef, undef, undef, undef, undef, undef, undef]).toArray, []⟩) (by kernel_rfl) ?_
      refine wp_seq ?_
      refine wp_seq ?_
      refine lwp_list ?_
      refine ls_move (x := x0) (by kernel_rfl) (by kernel_rfl) ?_
      refine ls_p (d := some 37) (by kernel_rfl) (by kernel_rfl) (p_nil (by kernel_rfl) H) (fun x37 H => ?_)
      refine ls_p (d := some 38) (by kernel_rfl) (by kernel_rfl) (p_off Try.underlying72 rfl (fun w => ⟨_, Try.sizeOf22 w⟩) rfl (by kernel_rfl) H) (fun x38 H => ?_)
      refine ls_y (d := some 39) (by kernel_rfl) (by kernel_rfl) HA (y_ld Try.isAgg22 (by kernel_rfl) H) (fun x39 H => ?_)
      refine ls_p (d := some 40) (by kernel_rfl) (by kernel_rfl) (p_len Try.underlying22 (by kernel_rfl) H) (fun x40 H => ?_)
      refine ls_p (d := some 41) (by kernel_rfl) (by kernel_rfl) (p_sEq (by kernel_rfl) (by kernel_rfl) H) (fun x41 H => ?_)
      refine ls_nil ?_
      refine then_normal ?_
      refine fr_eq (b := ⟨([x0, x1, undef, undef, (.slice none 0 0), (.bool false), undef, x1, x8, x0, x10, x11, undef, undef, undef, undef, undef, undef, undef, undef, undef, undef, undef, undef, undef, undef, undef, undef, undef, undef, undef, undef, undef, undef, undef, undef, x0, x37, x38, x39, x40, x41, undef, undef, undef, undef, undef, undef, undef, undef] ++ [undef, undef, undef, undef, undef, undef, undef, undef, undef, undef, undef, undef, undef, undef, undef, undef, undef, undef, undef, undef, undef, undef, undef, undef, undef, undef, undef, undef, undef, undef]).toArray, []⟩) (by kernel_rfl) ?_
      refine wp_if rfl H (fun H => ?_) (fun H => ?_)
      · refine wp_seq ?_
        refine lwp_list ?_
        refine ls_assign (x := (.slice none 0 0)) (by kernel_rfl) (by kernel_rfl) ?_
        refine ls_assign (x := (.bool false)) (by kernel_rfl) (by kernel_rfl) ?_
        refine ls_nil ?_
        refine then_normal ?_
        refine fr_eq (b := ⟨([x0, x1, undef, undef, (.slice none 0 0), (.bool false), undef, x1, x8, x0, x10, x11, undef, undef, undef, undef, undef, undef, undef, undef, undef, undef, undef, undef, undef, undef, undef, undef, undef, undef, undef, undef, undef, undef, undef, undef, x0, x37, x38, x39, x40, x41, undef, undef, undef, undef, undef, undef, undef, undef] ++ [undef, undef, undef, undef, undef, undef, undef, undef, undef, undef, undef, undef, undef, undef, undef, undef, undef, undef, undef, undef, undef, undef, undef, undef, undef, undef, undef, undef, undef, undef]).toArray, []⟩) (by kernel_rfl) ?_
        refine wp_ret ?_
        refine then_ret ?_
        exact end2 (Try.results16) (by kernel_rfl) (by kernel_rfl) (by kernel_rfl) HA H _ (.inr rfl)
      · refine wp_skip ?_
        refine then_normal ?_
        refine fr_eq (b := ⟨([x0, x1, undef, undef, (.slice none 0 0), (.bool false), undef, x1, x8, x0, x10, x11, undef, undef, undef, undef, undef, undef, undef, undef, undef, undef, undef, undef, undef, undef, undef, undef, undef, undef, undef, undef, undef, undef, undef, undef, x0, x37, x38, x39, x40, x41, undef, undef, undef, undef, undef, undef, undef, undef] ++ [undef, undef, undef, undef, undef, undef, undef, undef, undef, undef, undef, undef, undef, undef, undef, undef, undef, undef, undef, undef, undef, undef, undef, undef, undef, undef, undef, undef, undef, undef]).toArray, []⟩) (by kernel_rfl) ?_
        refine wp_seq ?_
        refine lwp_list ?_
        refine ls_move (x := x0) (by kernel_rfl) (by kernel_rfl) ?_
        refine ls_p (d := some 43) (by kernel_rfl) (by kernel_rfl) (p_nil (by kernel_rfl) H) (fun x43 H => ?_)
        refine ls_p (d := some 44) (by kernel_rfl) (by kernel_rfl) (p_off Try.underlying72 rfl (fun w => ⟨_, Try.sizeOf22 w⟩) rfl (by kernel_rfl) H) (fun x44 H => ?_)
        refine ls_y (d := some 45) (by kernel_rfl) (by kernel_rfl) HA (y_ld Try.isAgg22 (by kernel_rfl) H) (fun x45 H => ?_)
        refine ls_p (d := some 46) (by kernel_rfl) (by kernel_rfl) (p_ixs Try.underlying22 Try.sizeOf30 (by kernel_rfl) (by kernel_rfl) H) (fun x46 H => ?_)
        refine ls_y (d := some 47) (by kernel_rfl) (by kernel_rfl) HA (y_ld Try.isAgg30 (by kernel_rfl) H) (fun x47 H => ?_)
        refine ls_fr (b := ⟨([x0, x1, undef, undef, (.slice none 0 0), (.bool false), undef, x1, x8, x0, x10, x11, undef, undef, undef, undef, undef, undef, undef, undef, undef, undef, undef, undef, undef, undef, undef, undef, undef, undef, undef, undef, undef, undef, undef, undef, x0, x37, x38, x39, x40, x41, x0, x43, x44, x45, x46, x47, undef, undef] ++ [undef, undef, undef, undef, undef, undef, undef, undef, undef, undef, undef, undef, undef, undef, undef, undef, undef, undef, undef, undef, undef, undef, undef, undef, undef, undef, undef, undef, undef, undef]).toArray, []⟩) (by kernel_rfl) ?_
        refine ls_assign (x := x47) (by kernel_rfl) (by kernel_rfl) ?_
        refine ls_nil ?_
        refine then_normal ?_
        refine fr_eq (b := ⟨([x0, x1, undef, undef, (.slice none 0 0), (.bool false), x47, x1, x8, x0, x10, x11, undef, undef, undef, undef, undef, undef, undef, undef, undef, undef, undef, undef, undef, undef, undef, undef, undef, undef, undef, undef, undef, undef, undef, undef, x0, x37, x38, x39, x40, x41, x0, x43, x44, x45, x46, x47, undef, undef] ++ [undef, undef, undef, undef, undef, undef, undef, undef, undef, undef, undef, undef, undef, undef, undef, undef, undef, undef, undef, undef, undef, undef, undef, undef, undef, undef, undef, undef, undef, undef]).toArray, []⟩) (by kernel_rfl) ?_
        refine wp_seq ?_
        refine lwp_list ?_
        refine ls_move (x := x1) (by kernel_rfl) (by kernel_rfl) ?_
        refine ls_move (x := x47) (by kernel_rfl) (by kernel_rfl) ?_
        refine ls_p (d := some 50) (by kernel_rfl) (by kernel_rfl) (p_len Try.underlying30 (by kernel_rfl) H) (fun x50 H => ?_)
        refine ls_p (d := some 51) (by kernel_rfl) (by kernel_rfl) (p_min (by kernel_rfl) (by kernel_rfl) H) (fun x51 H => ?_)
        refine ls_assign (x := x51) (by kernel_rfl) (by kernel_rfl) ?_
        refine ls_nil ?_
        refine then_normal ?_
        refine fr_eq (b := ⟨([x0, x51, undef, undef, (.slice none 0 0), (.bool false), x47, x1, x8, x0, x10, x11, undef, undef, undef, undef, undef, undef, undef, undef, undef, undef, undef, undef, undef, undef, undef, undef, undef, undef, undef, undef, undef, undef, undef, undef, x0, x37, x38, x39, x40, x41, x0, x43, x44, x45, x46, x47, x1, x47] ++ [x50, x51, undef, undef, undef, undef, undef, undef, undef, undef, undef, undef, undef, undef, undef, undef, undef, undef, undef, undef, undef, undef, undef, undef, undef, undef, undef, undef, undef, undef]).toArray, []⟩) (by kernel_rfl) ?_
        refine wp_seq ?_
        obtain ⟨C_1, HC, H⟩ := H
        refine lwp_mx (Nat.testBit 8320) (Nat.testBit 128) (Nat.testBit 8055) [0, 1, 3, 7, 0, 0, 48, 112, 0, 0, 768, 240, 4095, 8191] (Nat.testBit 0) C_1 [0, 1, 2, 3, 4, 5, 6, 7, 8, 9, 10, 11, 12, 13] (by kernel_rfl) (by kernel_rfl) (by kernel_rfl) (by kernel_rfl) HA HC ?_
        intro w_4 HA_4
        refine lm_al (x := x0) (d := some 52) (by kernel_rfl) rfl (by kernel_rfl) (by kernel_rfl) (al_move (by kernel_rfl)) ?_
        refine lm_p (d := some 53) (by kernel_rfl) rfl (by kernel_rfl) (by kernel_rfl) (p_nil (by kernel_rfl) H) (fun x53 H => ?_)
        refine lm_p (d := some 54) (by kernel_rfl) rfl (by kernel_rfl) (by kernel_rfl) (p_off Try.underlying72 rfl (fun w => ⟨_, Try.sizeOf22 w⟩) rfl (by kernel_rfl) H) (fun x54 H => ?_)
        refine lm_f (d := some 55) (by kernel_rfl) rfl (by kernel_rfl) (by kernel_rfl) (by kernel_rfl) (by kernel_rfl) (c_ld Try.isAgg22 (by kernel_rfl) H) (fun x55 H => ?_)
        refine lm_al (x := x47) (d := some 56) (by kernel_rfl) rfl (by kernel_rfl) (by kernel_rfl) (al_move (by kernel_rfl)) ?_
        refine lm_al (x := x51) (d := some 57) (by kernel_rfl) rfl (by kernel_rfl) (by kernel_rfl) (al_move (by kernel_rfl)) ?_
        refine lm_fr (b := ⟨([x0, x51, undef, undef, (.slice none 0 0), (.bool false), x47, x1, x8, x0, x10, x11, undef, undef, undef, undef, undef, undef, undef, undef, undef, undef, undef, undef, undef, undef, undef, undef, undef, undef, undef, undef, undef, undef, undef, undef, x0, x37, x38, x39, x40, x41, x0, x43, x44, x45, x46, x47, x1, x47] ++ [x50, x51, x0, x53, x54, x55, x47, x51, undef, undef, undef, undef, undef, undef, undef, undef, undef, undef, undef, undef, undef, undef, undef, undef, undef, undef, undef, undef, undef, undef]).toArray, []⟩) (by kernel_rfl) ?_
        refine lm_p (d := some 58) (by kernel_rfl) rfl (by kernel_rfl) (by kernel_rfl) (p_sl Try.underlying30 Try.sizeOf5 (by kernel_rfl) (by kernel_rfl) (by kernel_rfl) H) (fun x58 H => ?_)
        refine lm_dc (d := some 59) (by kernel_rfl) rfl (by kernel_rfl) (by kernel_rfl) (by kernel_rfl) HA_4 (d_call (by kernel_rfl) (by kernel_rfl) H) (fun x59 h_3 w_5 H HA_5 => ?_)
        refine lm_al (x := x47) (d := some 60) (by kernel_rfl) rfl (by kernel_rfl) (by kernel_rfl) (al_move (by kernel_rfl)) ?_
        refine lm_al (x := x51) (d := some 61) (by kernel_rfl) rfl (by kernel_rfl) (by kernel_rfl) (al_move (by kernel_rfl)) ?_
        refine lm_p (d := some 62) (by kernel_rfl) rfl (by kernel_rfl) (by kernel_rfl) (p_sl Try.underlying30 Try.sizeOf5 (by kernel_rfl) (by kernel_rfl) (by kernel_rfl) H) (fun x62 H => ?_)
        refine lm_al (x := x59) (d := some 4) (by kernel_rfl) rfl (by kernel_rfl) (by kernel_rfl) (al_assign (by kernel_rfl)) ?_
        refine lm_fr (b := ⟨([x0, x51, undef, undef, x59, (.bool false), x47, x1, x8, x0, x10, x11, undef, undef, undef, undef, undef, undef, undef, undef, undef, undef, undef, undef, undef, undef, undef, undef, undef, undef, undef, undef, undef, undef, undef, undef, x0, x37, x38, x39, x40, x41, x0, x43, x44, x45, x46, x47, x1, x47] ++ [x50, x51, x0, x53, x54, x55, x47, x51, x58, x59, x47, x51, x62, undef, undef, undef, undef, undef, undef, undef, undef, undef, undef, undef, undef, undef, undef, undef, undef, undef]).toArray, []⟩) (by kernel_rfl) ?_
        refine lm_p (d := some 63) (by kernel_rfl) rfl (by kernel_rfl) (by kernel_rfl) (p_ixs Try.underlying22 Try.sizeOf30 (by kernel_rfl) (by kernel_rfl) H) (fun x63 H => ?_)
        refine lm_d (d := none) (by kernel_rfl) rfl (by kernel_rfl) (by kernel_rfl) (by kernel_rfl) HA_5 (d_st Try.sizeOf30 (by kernel_rfl) (by kernel_rfl) H) (fun _ h_4 w_6 H HA_6 => ?_)
        refine lm_nil ?_
        refine then_normal ?_
        refine fr_eq (b := ⟨([x0, x51, undef, undef, x59, (.bool false), x47, x1, x8, x0, x10, x11, undef, undef, undef, undef, undef, undef, undef, undef, undef, undef, undef, undef, undef, undef, undef, undef, undef, undef, undef, undef, undef, undef, undef, undef, x0, x37, x38, x39, x40, x41, x0, x43, x44, x45, x46, x47, x1, x47] ++ [x50, x51, x0, x53, x54, x55, x47, x51, x58, x59, x47, x51, x62, x63, undef, undef, undef, undef, undef, undef, undef, undef, undef, undef, undef, undef, undef, undef, undef, undef]).toArray, []⟩) (by kernel_rfl) ?_
        refine wp_seq ?_
        refine wp_seq ?_
        refine lwp_list ?_
        refine ls_move (x := x51) (by kernel_rfl) (by kernel_rfl) ?_
        refine ls_move (x := x47) (by kernel_rfl) (by kernel_rfl) ?_
        refine ls_p (d := some 66) (by kernel_rfl) (by kernel_rfl) (p_len Try.underlying30 (by kernel_rfl) H) (fun x66 H => ?_)
        refine ls_p (d := some 67) (by kernel_rfl) (by kernel_rfl) (p_sEq (by kernel_rfl) (by kernel_rfl) H) (fun x67 H => ?_)
        refine ls_nil ?_
        refine then_normal ?_
        refine fr_eq (b := ⟨([x0, x51, undef, undef, x59, (.bool false), x47, x1, x8, x0, x10, x11, undef, undef, undef, undef, undef, undef, undef, undef, undef, undef, undef, undef, undef, undef, undef, undef, undef, undef, undef, undef, undef, undef, undef, undef, x0, x37, x38, x39, x40, x41, x0, x43, x44, x45, x46, x47, x1, x47] ++ [x50, x51, x0, x53, x54, x55, x47, x51, x58, x59, x47, x51, x62, x63, x51, x47, x66, x67, undef, undef, undef, undef, undef, undef, undef, undef, undef, undef, undef, undef]).toArray, []⟩) (by kernel_rfl) ?_
        refine wp_join (fun a w => ∃ (D : Nat → Value) (h_5 : Heap), a = ⟨([x0, x51, undef, undef, x59, (.bool false), x47, x1, x8, x0, x10, x11, undef, undef, undef, undef, undef, undef, undef, undef, undef, undef, undef, undef, undef, undef, undef, undef, undef, undef, undef, undef, undef, undef, undef, undef, x0, x37, x38, x39, x40, x41, x0, x43, x44, x45, x46, x47, x1, x47] ++ [x50, x51, x0, x53, x54, x55, x47, x51, x58, x59, x47, x51, x62, x63, x51, x47, x66, x67, (D 0), (D 1), (D 2), (D 3), (D 4), (D 5), (D 6), (D 7), undef, undef, undef, undef]).toArray, []⟩ ∧ At w0 w h_5 ∧ ldisc_Disc_Read_j1 R x59 x47 h_5) ?_ ?_
        · refine wp_if rfl H (fun H => ?_) (fun H => ?_)
          · refine lwp_list ?_
            refine ls_move (x := x0) (by kernel_rfl) (by kernel_rfl) ?_
            refine ls_move (x := x0) (by kernel_rfl) (by kernel_rfl) ?_
            refine ls_p (d := some 70) (by kernel_rfl) (by kernel_rfl) (p_nil (by kernel_rfl) H) (fun x70 H => ?_)
            refine ls_p (d := some 71) (by kernel_rfl) (by kernel_rfl) (p_off Try.underlying72 rfl (fun w => ⟨_, Try.sizeOf22 w⟩) rfl (by kernel_rfl) H) (fun x71 H => ?_)
            refine ls_y (d := some 72) (by kernel_rfl) (by kernel_rfl) HA_6 (y_ld Try.isAgg22 (by kernel_rfl) H) (fun x72 H => ?_)
            refine ls_p (d := some 73) (by kernel_rfl) (by kernel_rfl) (p_sl Try.underlying22 Try.sizeOf30 (by kernel_rfl) (by kernel_rfl) (by kernel_rfl) H) (fun x73 H => ?_)
            refine ls_fr (b := ⟨([x0, x51, undef, undef, x59, (.bool false), x47, x1, x8, x0, x10, x11, undef, undef, undef, undef, undef, undef, undef, undef, undef, undef, undef, undef, undef, undef, undef, undef, undef, undef, undef, undef, undef, undef, undef, undef, x0, x37, x38, x39, x40, x41, x0, x43, x44, x45, x46, x47, x1, x47] ++ [x50, x51, x0, x53, x54, x55, x47, x51, x58, x59, x47, x51, x62, x63, x51, x47, x66, x67, x0, x0, x70, x71, x72, x73, undef, undef, undef, undef, undef, undef]).toArray, []⟩) (by kernel_rfl) ?_
            refine ls_p (d := some 74) (by kernel_rfl) (by kernel_rfl) (p_nil (by kernel_rfl) H) (fun x74 H => ?_)
            refine ls_p (d := some 75) (by kernel_rfl) (by kernel_rfl) (p_off Try.underlying72 rfl (fun w => ⟨_, Try.sizeOf22 w⟩) rfl (by kernel_rfl) H) (fun x75 H => ?_)
            refine ls_d (d := none) (by kernel_rfl) (by kernel_rfl) HA_6 (d_st Try.sizeOf22 (by kernel_rfl) (by kernel_rfl) H) (fun _ h_6 w_8 H HA_8 => ?_)
            refine ls_nil ?_
            exact ⟨(fun i => ([x0, x0, x70, x71, x72, x73, x74, x75]).getD i undef), h_6, by kernel_rfl, HA_8, H⟩
          · refine wp_skip ?_
            exact ⟨(fun i => ([undef, undef, undef, undef, undef, undef, undef, undef]).getD i undef), h_4, by kernel_rfl, HA_6, H⟩
        · rintro _ w_7 ⟨D, h_5, rfl, HA_7, H⟩
          unfold ldisc_Disc_Read_j1 at H
          refine then_normal ?_
          refine fr_eq (b := ⟨([x0, x51, undef, undef, x59, (.bool false), x47, x1, x8, x0, x10, x11, undef, undef, undef, undef, undef, undef, undef, undef, undef, undef, undef, undef, undef, undef, undef, undef, undef, undef, undef, undef, undef, undef, undef, undef, x0, x37, x38, x39, x40, x41, x0, x43, x44, x45, x46, x47, x1, x47] ++ [x50, x51, x0, x53, x54, x55, x47, x51, x58, x59, x47, x51, x62, x63, x51, x47, x66, x67, (D 0), (D 1), (D 2), (D 3), (D 4), (D 5), (D 6), (D 7), undef, undef, undef, undef]).toArray, []⟩) (by kernel_rfl) ?_
          refine wp_seq ?_
          refine lwp_list ?_
          refine ls_move (x := x59) (by kernel_rfl) (by kernel_rfl) ?_
          refine ls_move (x := x47) (by kernel_rfl) (by kernel_rfl) ?_
          refine ls_p (d := some 78) (by kernel_rfl) (by kernel_rfl) (p_len Try.underlying30 (by kernel_rfl) H) (fun x78 H => ?_)
          refine ls_p (d := some 79) (by kernel_rfl) (by kernel_rfl) (p_sEq (by kernel_rfl) (by kernel_rfl) H) (fun x79 H => ?_)
          refine ls_assign (x := x59) (by kernel_rfl) (by kernel_rfl) ?_
          refine ls_assign (x := x79) (by kernel_rfl) (by kernel_rfl) ?_
          refine ls_nil ?_
          refine then_normal ?_
          refine fr_eq (b := ⟨([x0, x51, undef, undef, x59, x79, x47, x1, x8, x0, x10, x11, undef, undef, undef, undef, undef, undef, undef, undef, undef, undef, undef, undef, undef, undef, undef, undef, undef, undef, undef, undef, undef, undef, undef, undef, x0, x37, x38, x39, x40, x41, x0, x43, x44, x45, x46, x47, x1, x47] ++ [x50, x51, x0, x53, x54, x55, x47, x51, x58, x59, x47, x51, x62, x63, x51, x47, x66, x67, (D 0), (D 1), (D 2), (D 3), (D 4), (D 5), (D 6), (D 7), x59, x47, x78, x79]).toArray, []⟩) (by kernel_rfl) ?_
          refine wp_ret ?_
          exact end2 (Try.results16) (by kernel_rfl) (by kernel_rfl) (by kernel_rfl) HA_7 H _ (.inr rfl)

end Go.Proofs.Ytlcklnbgknhhkaa

end

section
/- The line discipline: what is read. -/
set_option linter.unusedSimpArgs false
set_option linter.unusedVariables false
namespace Go.Proofs.Ytlcklnbgknhhkaa
open Go Go.HW

def D.read (d : D) (n : Int) : D × List Int × Bool :=
  if n < 1 then (d, [], false)
  else if (!d.loc 1) = true then ({ d with ra := d.ra.drop (min n.toNat d.ra.length) }, d.ra.take (min n.toNat d.ra.length), false)
  else match d.ls with
    | [] => (d, [], false)
    | l :: ls => ({ d with ls := if min n.toNat l.length = l.length then ls else l.drop (min n.toNat l.length) :: ls }, l.take (min n.toNat l.length), l.isEmpty)

section
variable {h0 h : Heap} {F : List HP} {R : Value → Heap → Prop} {k : Nat} {d : D}
theorem min_cast {n : Int} {m : Nat} (hn : 1 ≤ n) : (if (m : Int) < n then (m : Int) else n) = ((min n.toNat m : Nat) : Int) := by split <;> omega
theorem read_spec {n : Int} (s : HW.Sep h0 (Dc k d :: F) h) (hb : d.wt ≤ 300000000) (H : ∀ v h', HW.Sep h0 (Sl (encI .u8) 1 v (d.read n).2.1 :: Dc k (d.read n).1 :: F) h' → R (.tuple #[v, .bool (d.read n).2.2]) h') : ldisc_Disc_Read_c (ptr k 0) (.int .i64 n) h R := by
  apply ldisc_Disc_Read_runs
  unfold ldisc_Disc_Read_S
  unfold D.read at H
  rw [ev_lt, ev_if]
  by_cases h1 : n < 1
  · rw [if_pos h1] at H
    rw [if_pos (decide_eq_true h1)]
    exact H _ h (sep_nil s)
  rw [if_neg h1] at H
  rw [if_neg (by simpa using h1)]
  refine local_spec s ?_
  rw [ev_not, ev_if]
  obtain ⟨lv, sv, rv, ev, rs, e, so⟩ := Dopen s
  have b : h.has k (dC d lv sv rv ev) 72 := so.has
  have cc : ∀ {o : Nat} {u : Value} {K : Value → Prop}, (dC d lv sv rv ev)[o]? = some u → sLdC (fun h' => h'.has k (dC d lv sv rv ev) 72) (ptr k o) K = K u := fun hv => ldc_at (C := fun h' => h'.has k (dC d lv sv rv ev) 72) (h0 := h) b (fun h' e => by rw [e.at, hv])
  have wts := hb
  unfold D.wt at wts
  by_cases h2 : (!d.loc 1) = true
  · rw [if_pos h2] at H ⊢
    have f19 : ∀ {K : Value → Prop}, sLd h (ptr k 19) K = K rv := so.ld rfl
    have q := so.b4.seq
    rw [ev_nil, ev_off, Nat.zero_add, f19, q.len, ev_min, min_cast (by omega)]
    generalize hm : min n.toNat d.ra.length = m at H
    have hml : m ≤ d.ra.length := by omega
    refine ⟨fun h' => h'.has k (dC d lv sv rv ev) 72, b, ?_⟩
    rw [ev_nil, ev_off, Nat.zero_add, f19]
    refine q.slK (i := 0) (j := m) (by omega) hml rfl ⟨.i64, rfl⟩ ?_
    have rd : HW.Rd (encI .u8) 1 h0 (Sl (encI .u8) 1 rv d.ra :: Blk k (dC d lv sv rv ev) 72 :: Sl (encI .u8) 1 lv d.ln :: Sl encCV 1 sv (rs.map (·.1)) :: rowsU rs :: Sl (encI .u8) 1 ev d.ec :: F) rv d.ra := Rd.own0
    have rd2 := rd.cut (i := 0) (j := m) (by omega) hml
    rw [List.drop_zero] at rd2
    refine clone_bytes rd2 so.b4 (by rw [List.length_take]; omega) (fun v h3 cv s3 => ⟨s3.b2.has, ?_⟩)
    rw [ev_nil, ev_off, Nat.zero_add, cc (o := 19) (u := rv) rfl]
    refine s3.b1.seq.slK (i := m) (j := d.ra.length) hml (Nat.le_refl _) ⟨.i64, rfl⟩ rfl ?_
    rw [ev_nil, ev_off, Nat.zero_add]
    have s4 := s3.b1.cutl (i := m) hml
    have c4 : Cell1 (HW.cutP rv m d.ra.length 1) := s4.cell
    refine s4.b2.st (Nat.le_of_ble_eq_true rfl) c4 (fun h4 s5 => ?_)
    have s6 : HW.Sep h0 (Blk k (dC { d with ra := d.ra.drop m } lv sv (HW.cutP rv m d.ra.length 1) ev) 72 :: Sl (encI .u8) 1 (HW.cutP rv m d.ra.length 1) (d.ra.drop m) :: Sl (encI .u8) 1 v (d.ra.take m) :: Sl (encI .u8) 1 lv d.ln :: Sl encCV 1 sv (rs.map (·.1)) :: rowsU rs :: Sl (encI .u8) 1 ev d.ec :: F) h4 := s5
    refine H v h4 ?_
    have s7 : HW.Sep h0 (Blk k (dC { d with ra := d.ra.drop m } lv sv (HW.cutP rv m d.ra.length 1) ev) 72 :: Sl (encI .u8) 1 lv d.ln :: Sl encCV 1 sv (rs.map (·.1)) :: rowsU rs :: Sl (encI .u8) 1 (HW.cutP rv m d.ra.length 1) (d.ra.drop m) :: Sl (encI .u8) 1 ev d.ec :: Sl (encI .u8) 1 v (d.ra.take m) :: F) h4 := by
      have a1 := s6.b2
      have a2 : HW.Sep h0 (Sl (encI .u8) 1 (HW.cutP rv m d.ra.length 1) (d.ra.drop m) :: Blk k (dC { d with ra := d.ra.drop m } lv sv (HW.cutP rv m d.ra.length 1) ev) 72 :: Sl (encI .u8) 1 lv d.ln :: Sl encCV 1 sv (rs.map (·.1)) :: rowsU rs :: Sl (encI .u8) 1 ev d.ec :: Sl (encI .u8) 1 v (d.ra.take m) :: F) h4 := (a1.perm (List.perm_middle (l₁ := [_, _, _, _, _, _])).symm).b1
      exact a2.p4
    have s8 := Dshut (d := { d with ra := d.ra.drop m }) e s7
    exact s8.b1
  rw [if_neg h2] at H ⊢
  have f18 : ∀ {K : Value → Prop}, sLd h (ptr k 18) K = K sv := so.ld rfl
  have q18 := so.b2.seq
  rw [ev_nil, ev_off, Nat.zero_add, f18, q18.len, List.length_map, ev_eq, ev_if]
  cases hl : d.ls with
  | nil =>
    rw [hl] at H e
    have hr : rs = [] := List.map_eq_nil_iff.1 e
    subst hr
    rw [if_pos (by simp)]
    exact H _ h (sep_nil s)
  | cons l ls =>
    rw [hl] at H e
    simp only at H
    obtain ⟨p, rs', rfl⟩ : ∃ p rs', rs = p :: rs' := by cases rs with
      | nil => cases e
      | cons p r => exact ⟨p, r, rfl⟩
    rw [List.map_cons] at e
    have e1 : p.2 = l := (List.cons.inj e).1
    have e2 : rs'.map (·.2) = ls := (List.cons.inj e).2
    subst e1
    rw [if_neg (by simp; omega), ev_nil, ev_off, Nat.zero_add, f18]
    have r0 : ∀ {K : Value → Prop}, sIxS sv (.int .i64 0) 1 (fun q => sLd h q K) = K p.1.1 := fun {K} => Seq.ld q18 (j := 0) (x := p.1) rfl rfl .i64
    rw [r0]
    have s1 : HW.Sep h0 (Sl (encI .u8) 1 p.1.1 p.2 :: rowsU rs' :: Blk k (dC d lv sv rv ev) 72 :: Sl (encI .u8) 1 lv d.ln :: Sl encCV 1 sv ((p :: rs').map (·.1)) :: Sl (encI .u8) 1 rv d.ra :: Sl (encI .u8) 1 ev d.ec :: F) h := Sep.pop so.b3
    have q0 := s1.seq
    rw [q0.len, ev_min, min_cast (by omega)]
    generalize hm : min n.toNat p.2.length = m at H
    have hml : m ≤ p.2.length := by omega
    have hpl : p.2.length ≤ 300000000 := by
      have := hb
      unfold D.wt sumL at this
      rw [hl] at this
      simp only [List.map_cons, List.sum_cons] at this
      omega
    refine ⟨fun h' => h'.has k (dC d lv sv rv ev) 72, b, ?_⟩
    rw [ev_nil, ev_off, Nat.zero_add, cc (o := 18) (u := sv) rfl]
    refine q0.slK (i := 0) (j := m) (by omega) hml rfl ⟨.i64, rfl⟩ ?_
    have rd : HW.Rd (encI .u8) 1 h0 (Sl (encI .u8) 1 p.1.1 p.2 :: rowsU rs' :: Blk k (dC d lv sv rv ev) 72 :: Sl (encI .u8) 1 lv d.ln :: Sl encCV 1 sv ((p :: rs').map (·.1)) :: Sl (encI .u8) 1 rv d.ra :: Sl (encI .u8) 1 ev d.ec :: F) p.1.1 p.2 := Rd.own0
    have rd2 := rd.cut (i := 0) (j := m) (by omega) hml
    rw [List.drop_zero] at rd2
    refine clone_bytes rd2 s1 (by rw [List.length_take]; omega) (fun v h3 cv s3 => ⟨s3.b3.has, ?_⟩)
    refine s3.b1.seq.slK (i := m) (j := p.2.length) hml (Nat.le_refl _) ⟨.i64, rfl⟩ rfl ?_
    have s4 := s3.b1.cutl (i := m) hml
    have c4 : Cell1 (HW.cutP p.1.1 m p.2.length 1) := s4.cell
    have s5 := s4.b5
    have ix : ∀ {K : Value → Prop}, sIxS sv (.int .i64 0) 1 K = K (eltP sv 0 1) := fun {K} => s5.seq.elt (j := 0) (by simp) .i64
    rw [ix]
    refine s5.set1 encCV_len (j := 0) (by simp) ⟨HW.cutP p.1.1 m p.2.length 1, c4⟩ rfl c4 (fun h4 s6 => ?_)
    have s6 : HW.Sep h0 (Sl encCV 1 sv (⟨HW.cutP p.1.1 m p.2.length 1, c4⟩ :: rs'.map (·.1)) :: Sl (encI .u8) 1 (HW.cutP p.1.1 m p.2.length 1) (p.2.drop m) :: Sl (encI .u8) 1 v (p.2.take m) :: rowsU rs' :: Blk k (dC d lv sv rv ev) 72 :: Sl (encI .u8) 1 lv d.ln :: Sl (encI .u8) 1 rv d.ra :: Sl (encI .u8) 1 ev d.ec :: F) h4 := s6
    have lq : ∀ {K : Value → Prop}, sLen p.1.1 K = K (.int .i64 p.2.length) := fun {K} => q0.len
    unfold ldisc_Disc_Read_j1
    simp only [lq, ev_eq, ev_if]
    have he : (((p.2.length : Nat) : Int) == 0) = p.2.isEmpty := by cases p.2 <;> simp; omega
    rw [he]
    by_cases hmm : m = p.2.length
    · rw [if_pos hmm] at H
      rw [if_pos (by simp; omega)]
      have g18 : ∀ {K : Value → Prop}, sLd h4 (ptr k 18) K = K sv := s6.b4.ld rfl
      rw [ev_nil, ev_off, Nat.zero_add, g18]
      have q6 := s6.seq
      refine q6.slK (i := 1) (j := (rs'.map (·.1)).length + 1) (by omega) (by simp) ⟨.i64, rfl⟩ (by show bnd none _ _; simp [bnd]) ?_
      have s7 := s6.cutl (i := 1) (by simp)
      have c7 : Cell1 (HW.cutP sv 1 ((rs'.map (·.1)).length + 1) 1) := s7.cell
      rw [ev_nil, ev_off, Nat.zero_add]
      have s7 : HW.Sep h0 (Sl encCV 1 (HW.cutP sv 1 ((rs'.map (·.1)).length + 1) 1) (rs'.map (·.1)) :: Sl (encI .u8) 1 (HW.cutP p.1.1 m p.2.length 1) (p.2.drop m) :: Sl (encI .u8) 1 v (p.2.take m) :: rowsU rs' :: Blk k (dC d lv sv rv ev) 72 :: Sl (encI .u8) 1 lv d.ln :: Sl (encI .u8) 1 rv d.ra :: Sl (encI .u8) 1 ev d.ec :: F) h4 := s7
      refine s7.b4.st (Nat.le_of_ble_eq_true rfl) c7 (fun h5 s8 => ?_)
      have s9 : HW.Sep h0 (Blk k (dC { d with ls := ls } lv (HW.cutP sv 1 ((rs'.map (·.1)).length + 1) 1) rv ev) 72 :: Sl encCV 1 (HW.cutP sv 1 ((rs'.map (·.1)).length + 1) 1) (rs'.map (·.1)) :: Sl (encI .u8) 1 (HW.cutP p.1.1 m p.2.length 1) (p.2.drop m) :: Sl (encI .u8) 1 v (p.2.take m) :: rowsU rs' :: Sl (encI .u8) 1 lv d.ln :: Sl (encI .u8) 1 rv d.ra :: Sl (encI .u8) 1 ev d.ec :: F) h5 := s8
      refine H v h5 ?_
      have a3 := (selF (L := [_, _, _, _, _, _, _, _]) s9 [2, 0, 5, 1, 4, 6, 7, 3] rfl (by decide)).tail
      exact (Dshut (d := { d with ls := ls }) e2 a3).b1
    · rw [if_neg hmm] at H
      rw [if_neg (by simp; omega)]
      refine H v h4 ?_
      have a1 := selF (L := [_, _, _, _, _, _, _, _]) s6 [1, 3, 4, 5, 0, 6, 7, 2] rfl (by decide)
      have a2 : HW.Sep h0 (rowsU ((⟨HW.cutP p.1.1 m p.2.length 1, c4⟩, p.2.drop m) :: rs') :: Blk k (dC { d with ls := p.2.drop m :: ls } lv sv rv ev) 72 :: Sl (encI .u8) 1 lv d.ln :: Sl encCV 1 sv ((((⟨HW.cutP p.1.1 m p.2.length 1, c4⟩ : CV), p.2.drop m) :: rs').map (·.1)) :: Sl (encI .u8) 1 rv d.ra :: Sl (encI .u8) 1 ev d.ec :: Sl (encI .u8) 1 v (p.2.take m) :: F) h4 := Sep.unpop a1
      have a3 := selF (L := [_, _, _, _, _, _, _]) a2 [1, 2, 3, 0, 4, 5, 6] rfl (by decide)
      exact (Dshut (d := { d with ls := p.2.drop m :: ls }) (rs := (⟨HW.cutP p.1.1 m p.2.length 1, c4⟩, p.2.drop m) :: rs') (by rw [List.map_cons, e2]) a3).b1
end
end Go.Proofs.Ytlcklnbgknhhkaa

end

section
/- The shallow reading of one function, and that the function does it. Written by a program. -/
set_option linter.unusedVariables false
namespace Go.Proofs.Ytlcklnbgknhhkaa
open Go Go.HW

def betonyref01_Same_l1 (R : Value → Heap → Prop) (x0 x1 : Value) (next : Value → Heap → Prop) (x5 : Value) (h : Heap) : Prop :=
  sLen x0 fun x13 =>
  sLt x5 x13 fun x14 =>
  sIf x14 (sIxS x0 x5 1 fun x19 =>
  sLd h x19 fun x20 =>
  sIxS x1 x5 1 fun x23 =>
  sLd h x23 fun x24 =>
  sNe x20 x24 fun x25 =>
  sIf x25 (R (.bool false) h) (sAdd .i64 x5 (.int .i64 1) fun x16 =>
  next x16 h)) (R (.bool true) h)
def betonyref01_Same_S (x0 x1 : Value) (h : Heap) (R : Value → Heap → Prop) : Prop :=
  sLen x0 fun x7 =>
  sLen x1 fun x9 =>
  sNe x7 x9 fun x10 =>
  sIf x10 (R (.bool false) h) (sLoop (S := Value) (fun nxt s h => betonyref01_Same_l1 R x0 x1 (fun x5' h => nxt x5' h) s h) (.int .i64 0) h)
set_option maxRecDepth 100000 in
theorem betonyref01_Same_runs {x0 x1 : Value} {h : Heap} {R : Value → Heap → Prop} (H : betonyref01_Same_S x0 x1 h R) : betonyref01_Same_c x0 x1 h R := by
  unfold betonyref01_Same_S at H
  refine runs_of (b := ⟨#[x0, x1, undef, undef, undef, undef, undef, undef, undef, undef, undef, undef, undef, undef, undef, undef, undef, undef, undef, undef, undef, undef, undef, undef, undef, undef], []⟩) Try.call17 Try.func17 rfl (by kernel_rfl) (fun w0 HA => ?_)
  refine wp_seq ?_
  refine lwp_list ?_
  refine ls_assign (x := (.bool false)) (by kernel_rfl) (by kernel_rfl) ?_
  refine ls_nil ?_
  refine then_normal ?_
  refine fr_eq (b := ⟨#[x0, x1, undef, undef, (.bool false), undef, undef, undef, undef, undef, undef, undef, undef, undef, undef, undef, undef, undef, undef, undef, undef, undef, undef, undef, undef, undef], []⟩) (by kernel_rfl) ?_
  refine wp_seq ?_
  refine wp_seq ?_
  refine lwp_list ?_
  refine ls_move (x := x0) (by kernel_rfl) (by kernel_rfl) ?_
  refine ls_p (d := some 7) (by kernel_rfl) (by kernel_rfl) (p_len Try.underlying30 (by kernel_rfl) H) (fun x7 H => ?_)
  refine ls_move (x := x1) (by kernel_rfl) (by kernel_rfl) ?_
  refine ls_p (d := some 9) (by kernel_rfl) (by kernel_rfl) (p_len Try.underlying30 (by kernel_rfl) H) (fun x9 H => ?_)
  refine ls_p (d := some 10) (by kernel_rfl) (by kernel_rfl) (p_sNe (by kernel_rfl) (by kernel_rfl) H) (fun x10 H => ?_)
  refine ls_nil ?_
  refine then_normal ?_
  refine fr_eq (b := ⟨#[x0, x1, undef, undef, (.bool false), undef, x0, x7, x1, x9, x10, undef, undef, undef, undef, undef, undef, undef, undef, undef, undef, undef, undef, undef, undef, undef], []⟩) (by kernel_rfl) ?_
  refine wp_if rfl H (fun H => ?_) (fun H => ?_)
  · refine wp_seq ?_
    refine lwp_list ?_
    refine ls_assign (x := (.bool false)) (by kernel_rfl) (by kernel_rfl) ?_
    refine ls_nil ?_
    refine then_normal ?_
    refine fr_eq (b := ⟨#[x0, x1, undef, undef, (.bool false), undef, x0, x7, x1, x9, x10, undef, undef, undef, undef, undef, undef, undef, undef, undef, undef, undef, undef, undef, undef, undef], []⟩) (by kernel_rfl) ?_
    refine wp_ret ?_
    refine then_ret ?_
    exact end1 (Try.results17) (by kernel_rfl) (by kernel_rfl) HA H _ (.inr rfl)
  · refine wp_skip ?_
    refine then_normal ?_
    refine fr_eq (b := ⟨#[x0, x1, undef, undef, (.bool false), undef, x0, x7, x1, x9, x10, undef, undef, undef, undef, undef, undef, undef, undef, undef, undef, undef, undef, undef, undef, undef], []⟩) (by kernel_rfl) ?_
    refine wp_seq ?_
    refine wp_seq ?_
    refine lwp_list ?_
    refine ls_assign (x := (.int .i64 0)) (by kernel_rfl) (by kernel_rfl) ?_
    refine ls_nil ?_
    refine then_normal ?_
    refine fr_eq (b := ⟨#[x0, x1, undef, undef, (.bool false), (.int .i64 0), x0, x7, x1, x9, x10, undef, undef, undef, undef, undef, undef, undef, undef, undef, undef, undef, undef, undef, undef, undef], []⟩) (by kernel_rfl) ?_
    refine wp_block ?_
    obtain ⟨I, m, H0, HB⟩ := H
    refine wp_loop (fun a w => ∃ (D : Nat → Value) (x5 : Value) (h : Heap), a = ⟨#[x0, x1, undef, undef, (D 0), x5, x0, x7, x1, x9, x10, (D 1), (D 2), (D 3), (D 4), (D 5), (D 6), (D 7), (D 8), (D 9), (D 10), (D 11), (D 12), (D 13), (D 14), (D 15)], []⟩ ∧ At w0 w h ∧ I x5 h) (fun a w => m (a.tmps.getD 5 undef) w.heap) ?_ ?_
    · exact ⟨(fun i => ([(.bool false), undef, undef, undef, undef, undef, undef, undef, undef, undef, undef, undef, undef, undef, undef, undef]).getD i undef), (.int .i64 0), h, by kernel_rfl, HA, H0⟩
    · rintro _ w ⟨D, x5, h, rfl, HA, HI⟩
      have H : betonyref01_Same_l1 R x0 x1 (fun x5' h' => I x5' h' ∧ m x5' h' < m x5 h) x5 h := HB x5 h HI
      clear HB H0 HI
      unfold betonyref01_Same_l1 at H
      refine wp_seq ?_
      refine wp_seq ?_
      refine lwp_list ?_
      refine ls_move (x := x5) (by kernel_rfl) (by kernel_rfl) ?_
      refine ls_move (x := x0) (by kernel_rfl) (by kernel_rfl) ?_
      refine ls_p (d := some 13) (by kernel_rfl) (by kernel_rfl) (p_len Try.underlying30 (by kernel_rfl) H) (fun x13 H => ?_)
      refine ls_p (d := some 14) (by kernel_rfl) (by kernel_rfl) (p_sLt (by kernel_rfl) (by kernel_rfl) H) (fun x14 H => ?_)
      refine ls_nil ?_
      refine then_normal ?_
      refine fr_eq (b := ⟨#[x0, x1, undef, undef, (D 0), x5, x0, x7, x1, x9, x10, x5, x0, x13, x14, (D 5), (D 6), (D 7), (D 8), (D 9), (D 10), (D 11), (D 12), (D 13), (D 14), (D 15)], []⟩) (by kernel_rfl) ?_
      refine wp_if rfl H (fun H => ?_) (fun H => ?_)
      · refine wp_skip ?_
        refine then_normal ?_
        refine fr_eq (b := ⟨#[x0, x1, undef, undef, (D 0), x5, x0, x7, x1, x9, x10, x5, x0, x13, x14, (D 5), (D 6), (D 7), (D 8), (D 9), (D 10), (D 11), (D 12), (D 13), (D 14), (D 15)], []⟩) (by kernel_rfl) ?_
        refine wp_seq ?_
        refine wp_block ?_
        refine wp_seq ?_
        refine lwp_qt (by kernel_rfl) (by kernel_rfl) HA ?_
        refine lq_move (x := x0) (by kernel_rfl) (by kernel_rfl) ?_
        refine lq_move (x := x5) (by kernel_rfl) (by kernel_rfl) ?_
        refine lq_p (d := some 19) (by kernel_rfl) (by kernel_rfl) (p_ixs Try.underlying30 Try.sizeOf5 (by kernel_rfl) (by kernel_rfl) H) (fun x19 H => ?_)
        refine lq_y (d := some 20) (by kernel_rfl) (by kernel_rfl) HA (y_ld Try.isAgg5 (by kernel_rfl) H) (fun x20 H => ?_)
        refine lq_move (x := x1) (by kernel_rfl) (by kernel_rfl) ?_
        refine lq_move (x := x5) (by kernel_rfl) (by kernel_rfl) ?_
        refine lq_fr (b := ⟨#[x0, x1, undef, undef, (D 0), x5, x0, x7, x1, x9, x10, x5, x0, x13, x14, (D 5), (D 6), x0, x5, x19, x20, x1, x5, (D 13), (D 14), (D 15)], []⟩) (by kernel_rfl) ?_
        refine lq_p (d := some 23) (by kernel_rfl) (by kernel_rfl) (p_ixs Try.underlying30 Try.sizeOf5 (by kernel_rfl) (by kernel_rfl) H) (fun x23 H => ?_)
        refine lq_y (d := some 24) (by kernel_rfl) (by kernel_rfl) HA (y_ld Try.isAgg5 (by kernel_rfl) H) (fun x24 H => ?_)
        refine lq_p (d := some 25) (by kernel_rfl) (by kernel_rfl) (p_sNe (by kernel_rfl) (by kernel_rfl) H) (fun x25 H => ?_)
        refine lq_nil ?_
        intro w_1 HA_1
        refine then_normal ?_
        refine fr_eq (b := ⟨#[x0, x1, undef, undef, (D 0), x5, x0, x7, x1, x9, x10, x5, x0, x13, x14, (D 5), (D 6), x0, x5, x19, x20, x1, x5, x23, x24, x25], []⟩) (by kernel_rfl) ?_
        refine wp_if rfl H (fun H => ?_) (fun H => ?_)
        · refine wp_seq ?_
          refine lwp_list ?_
          refine ls_assign (x := (.bool false)) (by kernel_rfl) (by kernel_rfl) ?_
          refine ls_nil ?_
          refine then_normal ?_
          refine fr_eq (b := ⟨#[x0, x1, undef, undef, (.bool false), x5, x0, x7, x1, x9, x10, x5, x0, x13, x14, (D 5), (D 6), x0, x5, x19, x20, x1, x5, x23, x24, x25], []⟩) (by kernel_rfl) ?_
          refine wp_ret ?_
          refine block_ret ?_
          refine then_ret ?_
          refine then_ret ?_
          refine block_ret ?_
          refine then_ret ?_
          exact end1 (Try.results17) (by kernel_rfl) (by kernel_rfl) HA_1 H _ (.inr rfl)
        · refine wp_skip ?_
          refine block_normal ?_
          refine then_normal ?_
          refine fr_eq (b := ⟨#[x0, x1, undef, undef, (D 0), x5, x0, x7, x1, x9, x10, x5, x0, x13, x14, (D 5), (D 6), x0, x5, x19, x20, x1, x5, x23, x24, x25], []⟩) (by kernel_rfl) ?_
          refine lwp_list ?_
          refine ls_move (x := x5) (by kernel_rfl) (by kernel_rfl) ?_
          refine ls_p (d := some 16) (by kernel_rfl) (by kernel_rfl) (p_add (by kernel_rfl) (by kernel_rfl) H) (fun x16 H => ?_)
          refine ls_assign (x := x16) (by kernel_rfl) (by kernel_rfl) ?_
          refine ls_nil ?_
          exact ⟨⟨(fun i => ([(D 0), x5, x0, x13, x14, x5, x16, x0, x5, x19, x20, x1, x5, x23, x24, x25]).getD i undef), x16, h, by kernel_rfl, HA_1, H.1⟩, loop_lt HA_1.heap HA.heap (by kernel_rfl) (by kernel_rfl) H.2⟩
      · refine wp_exit ?_
        refine then_exit ?_
        refine then_exit ?_
        refine block_exit ?_
        refine then_normal ?_
        refine fr_eq (b := ⟨#[x0, x1, undef, undef, (D 0), x5, x0, x7, x1, x9, x10, x5, x0, x13, x14, (D 5), (D 6), (D 7), (D 8), (D 9), (D 10), (D 11), (D 12), (D 13), (D 14), (D 15)], []⟩) (by kernel_rfl) ?_
        refine wp_seq ?_
        refine lwp_list ?_
        refine ls_assign (x := (.bool true)) (by kernel_rfl) (by kernel_rfl) ?_
        refine ls_nil ?_
        refine then_normal ?_
        refine fr_eq (b := ⟨#[x0, x1, undef, undef, (.bool true), x5, x0, x7, x1, x9, x10, x5, x0, x13, x14, (D 5), (D 6), (D 7), (D 8), (D 9), (D 10), (D 11), (D 12), (D 13), (D 14), (D 15)], []⟩) (by kernel_rfl) ?_
        refine wp_ret ?_
        exact end1 (Try.results17) (by kernel_rfl) (by kernel_rfl) HA H _ (.inr rfl)

end Go.Proofs.Ytlcklnbgknhhkaa

end

section
/- The shallow reading of one function, and that the function does it. Written by a program. -/
set_option linter.unusedVariables false
namespace Go.Proofs.Ytlcklnbgknhhkaa
open Go Go.HW

def betonylaw18_feed_j2 (next : Value → Value → Value → Heap → Prop) (x8 x6_1 x7_1 : Value) (h_1 : Heap) : Prop :=
  sAdd .i64 x8 (.int .i64 1) fun x16 =>
  next x6_1 x7_1 x16 h_1
def betonylaw18_feed_l1 (R : Value → Heap → Prop) (x0 x1 : Value) (next : Value → Value → Value → Heap → Prop) (x6 x7 x8 : Value) (h : Heap) : Prop :=
  sLen x1 fun x13 =>
  sLt x8 x13 fun x14 =>
  sIf x14 (sIxS x1 x8 1 fun x21 =>
  sLd h x21 fun x22 =>
  ldisc_Disc_Input_c x0 x22 h fun x23 h_2 => 
  sTup x23 0 fun x24 =>
  sTup x23 1 fun x25 =>
  sApp h_2 x6 x24 #[.int .u8 0] 5 1 fun x28 h_3 => 
  sNe x25 (.int .i64 0) fun x30 =>
  sIf x30 (betonylaw18_feed_j2 next x8 x28 x25 h_3) (betonylaw18_feed_j2 next x8 x28 x7 h_3)) (R (.tuple #[x6, x7]) h)
def betonylaw18_feed_S (x0 x1 : Value) (h : Heap) (R : Value → Heap → Prop) : Prop :=
  sLoop (S := Value × Value × Value) (fun nxt s h => betonylaw18_feed_l1 R x0 x1 (fun x6' x7' x8' h => nxt (x6', x7', x8') h) s.1 s.2.1 s.2.2 h) ((.slice none 0 0), (.int .i64 0), (.int .i64 0)) h
set_option maxRecDepth 100000 in
theorem betonylaw18_feed_runs {x0 x1 : Value} {h : Heap} {R : Value → Heap → Prop} (H : betonylaw18_feed_S x0 x1 h R) : betonylaw18_feed_c x0 x1 h R := by
  unfold betonylaw18_feed_S at H
  refine runs_of (b := ⟨#[x0, x1, undef, undef, undef, undef, undef, undef, undef, undef, undef, undef, undef, undef, undef, undef, undef, undef, undef, undef, undef, undef, undef, undef, undef, undef, undef, undef, undef, undef, undef, undef, undef, undef], []⟩) Try.call15 Try.func15 rfl (by kernel_rfl) (fun w0 HA => ?_)
  refine wp_seq ?_
  refine lwp_list ?_
  refine ls_assign (x := (.slice none 0 0)) (by kernel_rfl) (by kernel_rfl) ?_
  refine ls_assign (x := (.int .i64 0)) (by kernel_rfl) (by kernel_rfl) ?_
  refine ls_nil ?_
  refine then_normal ?_
  refine fr_eq (b := ⟨#[x0, x1, undef, undef, (.slice none 0 0), (.int .i64 0), undef, undef, undef, undef, undef, undef, undef, undef, undef, undef, undef, undef, undef, undef, undef, undef, undef, undef, undef, undef, undef, undef, undef, undef, undef, undef, undef, undef], []⟩) (by kernel_rfl) ?_
  refine wp_seq ?_
  refine lwp_list ?_
  refine ls_assign (x := (.slice none 0 0)) (by kernel_rfl) (by kernel_rfl) ?_
  refine ls_nil ?_
  refine then_normal ?_
  refine fr_eq (b := ⟨#[x0, x1, undef, undef, (.slice none 0 0), (.int .i64 0), (.slice none 0 0), undef, undef, undef, undef, undef, undef, undef, undef, undef, undef, undef, undef, undef, undef, undef, undef, undef, undef, undef, undef, undef, undef, undef, undef, undef, undef, undef], []⟩) (by kernel_rfl) ?_
  refine wp_seq ?_
  refine lwp_list ?_
  refine ls_assign (x := (.int .i64 0)) (by kernel_rfl) (by kernel_rfl) ?_
  refine ls_nil ?_
  refine then_normal ?_
  refine fr_eq (b := ⟨#[x0, x1, undef, undef, (.slice none 0 0), (.int .i64 0), (.slice none 0 0), (.int .i64 0), undef, undef, undef, undef, undef, undef, undef, undef, undef, undef, undef, undef, undef, undef, undef, undef, undef, undef, undef, undef, undef, undef, undef, undef, undef, undef], []⟩) (by kernel_rfl) ?_
  refine wp_seq ?_
  refine wp_seq ?_
  refine lwp_list ?_
  refine ls_assign (x := (.int .i64 0)) (by kernel_rfl) (by kernel_rfl) ?_
  refine ls_nil ?_
  refine then_normal ?_
  refine fr_eq (b := ⟨#[x0, x1, undef, undef, (.slice none 0 0), (.int .i64 0), (.slice none 0 0), (.int .i64 0), (.int .i64 0), undef, undef, undef, undef, undef, undef, undef, undef, undef, undef, undef, undef, undef, undef, undef, undef, undef, undef, undef, undef, undef, undef, undef, undef, undef], []⟩) (by kernel_rfl) ?_
  refine wp_block ?_
  obtain ⟨I, m, H0, HB⟩ := H
  refine wp_loop (fun a w => ∃ (D : Nat → Value) (x6 x7 x8 : Value) (h : Heap), a = ⟨#[x0, x1, undef, undef, (.slice none 0 0), (.int .i64 0), x6, x7, x8, (D 0), (D 1), (D 2), (D 3), (D 4), (D 5), (D 6), (D 7), (D 8), (D 9), (D 10), (D 11), (D 12), (D 13), (D 14), (D 15), (D 16), (D 17), (D 18), (D 19), (D 20), (D 21), (D 22), undef, undef], []⟩ ∧ At w0 w h ∧ I (x6, x7, x8) h) (fun a w => m ((a.tmps.getD 6 undef), (a.tmps.getD 7 undef), (a.tmps.getD 8 undef)) w.heap) ?_ ?_
  · exact ⟨(fun i => ([undef, undef, undef, undef, undef, undef, undef, undef, undef, undef, undef, undef, undef, undef, undef, undef, undef, undef, undef, undef, undef, undef, undef]).getD i undef), (.slice none 0 0), (.int .i64 0), (.int .i64 0), h, by kernel_rfl, HA, H0⟩
  · rintro _ w ⟨D, x6, x7, x8, h, rfl, HA, HI⟩
    have H : betonylaw18_feed_l1 R x0 x1 (fun x6' x7' x8' h' => I (x6', x7', x8') h' ∧ m (x6', x7', x8') h' < m (x6, x7, x8) h) x6 x7 x8 h := HB (x6, x7, x8) h HI
    clear HB H0 HI
    unfold betonylaw18_feed_l1 at H
    refine wp_seq ?_
    refine wp_seq ?_
    refine lwp_list ?_
    refine ls_move (x := x8) (by kernel_rfl) (by kernel_rfl) ?_
    refine ls_move (x := x1) (by kernel_rfl) (by kernel_rfl) ?_
    refine ls_p (d := some 13) (by kernel_rfl) (by kernel_rfl) (p_len Try.underlying30 (by kernel_rfl) H) (fun x13 H => ?_)
    refine ls_p (d := some 14) (by kernel_rfl) (by kernel_rfl) (p_sLt (by kernel_rfl) (by kernel_rfl) H) (fun x14 H => ?_)
    refine ls_nil ?_
    refine then_normal ?_
    refine fr_eq (b := ⟨#[x0, x1, undef, undef, (.slice none 0 0), (.int .i64 0), x6, x7, x8, (D 0), (D 1), x8, x1, x13, x14, (D 6), (D 7), (D 8), (D 9), (D 10), (D 11), (D 12), (D 13), (D 14), (D 15), (D 16), (D 17), (D 18), (D 19), (D 20), (D 21), (D 22), undef, undef], []⟩) (by kernel_rfl) ?_
    refine wp_if rfl H (fun H => ?_) (fun H => ?_)
    · refine wp_skip ?_
      refine then_normal ?_
      refine fr_eq (b := ⟨#[x0, x1, undef, undef, (.slice none 0 0), (.int .i64 0), x6, x7, x8, (D 0), (D 1), x8, x1, x13, x14, (D 6), (D 7), (D 8), (D 9), (D 10), (D 11), (D 12), (D 13), (D 14), (D 15), (D 16), (D 17), (D 18), (D 19), (D 20), (D 21), (D 22), undef, undef], []⟩) (by kernel_rfl) ?_
      refine wp_seq ?_
      refine wp_join (fun a w => ∃ (D_1 : Nat → Value) (x6_1 x7_1 : Value) (h_1 : Heap), a = ⟨#[x0, x1, undef, undef, (.slice none 0 0), (.int .i64 0), x6_1, x7_1, x8, (D_1 0), (D_1 1), x8, x1, x13, x14, (D 6), (D 7), (D_1 2), (D_1 3), (D_1 4), (D_1 5), (D_1 6), (D_1 7), (D_1 8), (D_1 9), (D_1 10), (D_1 11), (D_1 12), (D_1 13), (D_1 14), (D_1 15), (D_1 16), undef, undef], []⟩ ∧ At w0 w h_1 ∧ betonylaw18_feed_j2 (fun x6' x7' x8' h' => I (x6', x7', x8') h' ∧ m (x6', x7', x8') h' < m (x6, x7, x8) h) x8 x6_1 x7_1 h_1) ?_ ?_
      · refine wp_block ?_
        refine wp_seq ?_
        refine lwp_list ?_
        refine ls_move (x := x0) (by kernel_rfl) (by kernel_rfl) ?_
        refine ls_move (x := x1) (by kernel_rfl) (by kernel_rfl) ?_
        refine ls_move (x := x8) (by kernel_rfl) (by kernel_rfl) ?_
        refine ls_p (d := some 21) (by kernel_rfl) (by kernel_rfl) (p_ixs Try.underlying30 Try.sizeOf5 (by kernel_rfl) (by kernel_rfl) H) (fun x21 H => ?_)
        refine ls_y (d := some 22) (by kernel_rfl) (by kernel_rfl) HA (y_ld Try.isAgg5 (by kernel_rfl) H) (fun x22 H => ?_)
        refine ls_d (d := some 23) (by kernel_rfl) (by kernel_rfl) HA (d_call (by kernel_rfl) (by kernel_rfl) H) (fun x23 h_2 w_2 H HA_2 => ?_)
        refine ls_fr (b := ⟨#[x0, x1, undef, undef, (.slice none 0 0), (.int .i64 0), x6, x7, x8, (D 0), (D 1), x8, x1, x13, x14, (D 6), (D 7), (D 8), x0, x1, x8, x21, x22, x23, (D 15), (D 16), (D 17), (D 18), (D 19), (D 20), (D 21), (D 22), undef, undef], []⟩) (by kernel_rfl) ?_
        refine ls_move (x := x23) (by kernel_rfl) (by kernel_rfl) ?_
        refine ls_p (d := some 24) (by kernel_rfl) (by kernel_rfl) (p_tup (by kernel_rfl) H) (fun x24 H => ?_)
        refine ls_p (d := some 25) (by kernel_rfl) (by kernel_rfl) (p_tup (by kernel_rfl) H) (fun x25 H => ?_)
        refine ls_assign (x := x24) (by kernel_rfl) (by kernel_rfl) ?_
        refine ls_assign (x := x25) (by kernel_rfl) (by kernel_rfl) ?_
        refine ls_nil ?_
        refine then_normal ?_
        refine fr_eq (b := ⟨#[x0, x1, undef, undef, (.slice none 0 0), (.int .i64 0), x6, x7, x8, x24, x25, x8, x1, x13, x14, (D 6), (D 7), x23, x0, x1, x8, x21, x22, x23, x24, x25, (D 17), (D 18), (D 19), (D 20), (D 21), (D 22), undef, undef], []⟩) (by kernel_rfl) ?_
        refine wp_seq ?_
        refine lwp_list ?_
        refine ls_move (x := x6) (by kernel_rfl) (by kernel_rfl) ?_
        refine ls_move (x := x24) (by kernel_rfl) (by kernel_rfl) ?_
        refine ls_d (d := some 28) (by kernel_rfl) (by kernel_rfl) HA_2 (d_app (z := #[.int .u8 0]) Try.underlying30 Try.underlying30 (.inl ⟨_, rfl⟩) Try.typeInfo5 (by kernel_rfl) Try.sizeOf5 Try.zeroValue5 (by kernel_rfl) (by kernel_rfl) (by kernel_rfl) H) (fun x28 h_3 w_3 H HA_3 => ?_)
        refine ls_assign (x := x28) (by kernel_rfl) (by kernel_rfl) ?_
        refine ls_nil ?_
        refine then_normal ?_
        refine fr_eq (b := ⟨#[x0, x1, undef, undef, (.slice none 0 0), (.int .i64 0), x28, x7, x8, x24, x25, x8, x1, x13, x14, (D 6), (D 7), x23, x0, x1, x8, x21, x22, x23, x24, x25, x6, x24, x28, (D 20), (D 21), (D 22), undef, undef], []⟩) (by kernel_rfl) ?_
        refine wp_seq ?_
        refine lwp_list ?_
        refine ls_move (x := x25) (by kernel_rfl) (by kernel_rfl) ?_
        refine ls_p (d := some 30) (by kernel_rfl) (by kernel_rfl) (p_sNe (by kernel_rfl) (by kernel_rfl) H) (fun x30 H => ?_)
        refine ls_nil ?_
        refine then_normal ?_
        refine fr_eq (b := ⟨#[x0, x1, undef, undef, (.slice none 0 0), (.int .i64 0), x28, x7, x8, x24, x25, x8, x1, x13, x14, (D 6), (D 7), x23, x0, x1, x8, x21, x22, x23, x24, x25, x6, x24, x28, x25, x30, (D 22), undef, undef], []⟩) (by kernel_rfl) ?_
        refine wp_if rfl H (fun H => ?_) (fun H => ?_)
        · refine lwp_list ?_
          refine ls_move (x := x25) (by kernel_rfl) (by kernel_rfl) ?_
          refine ls_assign (x := x25) (by kernel_rfl) (by kernel_rfl) ?_
          refine ls_nil ?_
          refine block_normal ?_
          exact ⟨(fun i => ([x24, x25, x23, x0, x1, x8, x21, x22, x23, x24, x25, x6, x24, x28, x25, x30, x25]).getD i undef), x28, x25, h_3, by kernel_rfl, HA_3, H⟩
        · refine wp_skip ?_
          refine block_normal ?_
          exact ⟨(fun i => ([x24, x25, x23, x0, x1, x8, x21, x22, x23, x24, x25, x6, x24, x28, x25, x30, (D 22)]).getD i undef), x28, x7, h_3, by kernel_rfl, HA_3, H⟩
      · rintro _ w_1 ⟨D_1, x6_1, x7_1, h_1, rfl, HA_1, H⟩
        unfold betonylaw18_feed_j2 at H
        refine then_normal ?_
        refine fr_eq (b := ⟨#[x0, x1, undef, undef, (.slice none 0 0), (.int .i64 0), x6_1, x7_1, x8, (D_1 0), (D_1 1), x8, x1, x13, x14, (D 6), (D 7), (D_1 2), (D_1 3), (D_1 4), (D_1 5), (D_1 6), (D_1 7), (D_1 8), (D_1 9), (D_1 10), (D_1 11), (D_1 12), (D_1 13), (D_1 14), (D_1 15), (D_1 16), undef, undef], []⟩) (by kernel_rfl) ?_
        refine lwp_list ?_
        refine ls_move (x := x8) (by kernel_rfl) (by kernel_rfl) ?_
        refine ls_p (d := some 16) (by kernel_rfl) (by kernel_rfl) (p_add (by kernel_rfl) (by kernel_rfl) H) (fun x16 H => ?_)
        refine ls_assign (x := x16) (by kernel_rfl) (by kernel_rfl) ?_
        refine ls_nil ?_
        exact ⟨⟨(fun i => ([(D_1 0), (D_1 1), x8, x1, x13, x14, x8, x16, (D_1 2), (D_1 3), (D_1 4), (D_1 5), (D_1 6), (D_1 7), (D_1 8), (D_1 9), (D_1 10), (D_1 11), (D_1 12), (D_1 13), (D_1 14), (D_1 15), (D_1 16)]).getD i undef), x6_1, x7_1, x16, h_1, by kernel_rfl, HA_1, H.1⟩, loop_lt HA_1.heap HA.heap (by kernel_rfl) (by kernel_rfl) H.2⟩
    · refine wp_exit ?_
      refine then_exit ?_
      refine then_exit ?_
      refine block_exit ?_
      refine then_normal ?_
      refine fr_eq (b := ⟨#[x0, x1, undef, undef, (.slice none 0 0), (.int .i64 0), x6, x7, x8, (D 0), (D 1), x8, x1, x13, x14, (D 6), (D 7), (D 8), (D 9), (D 10), (D 11), (D 12), (D 13), (D 14), (D 15), (D 16), (D 17), (D 18), (D 19), (D 20), (D 21), (D 22), undef, undef], []⟩) (by kernel_rfl) ?_
      refine wp_seq ?_
      refine lwp_list ?_
      refine ls_move (x := x6) (by kernel_rfl) (by kernel_rfl) ?_
      refine ls_move (x := x7) (by kernel_rfl) (by kernel_rfl) ?_
      refine ls_assign (x := x6) (by kernel_rfl) (by kernel_rfl) ?_
      refine ls_assign (x := x7) (by kernel_rfl) (by kernel_rfl) ?_
      refine ls_nil ?_
      refine then_normal ?_
      refine fr_eq (b := ⟨#[x0, x1, undef, undef, x6, x7, x6, x7, x8, (D 0), (D 1), x8, x1, x13, x14, (D 6), (D 7), (D 8), (D 9), (D 10), (D 11), (D 12), (D 13), (D 14), (D 15), (D 16), (D 17), (D 18), (D 19), (D 20), (D 21), (D 22), x6, x7], []⟩) (by kernel_rfl) ?_
      refine wp_ret ?_
      exact end2 (Try.results15) (by kernel_rfl) (by kernel_rfl) (by kernel_rfl) HA H _ (.inr rfl)

end Go.Proofs.Ytlcklnbgknhhkaa

end
