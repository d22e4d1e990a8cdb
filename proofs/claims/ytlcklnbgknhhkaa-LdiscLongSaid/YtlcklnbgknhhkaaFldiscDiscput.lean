/- The shallow reading of one function, and that the function does it. Written by a program. -/
import Derived.Test.YtlcklnbgknhhkaaFnC
set_option linter.unusedVariables false
namespace Go.Proofs.Ytlcklnbgknhhkaa
open Go Go.HW

def ldisc_Disc_put_j2 (R : Value → Heap → Prop) (x0 x1 : Value) (h_4 : Heap) : Prop :=
  ldisc_Disc_show_c x0 x1 h_4 fun x90 h_5 => 
  R (.bool true) h_5
def ldisc_Disc_put_j1 (R : Value → Heap → Prop) (x0 x1 : Value) (h : Heap) : Prop :=
  sEq x1 (.int .u8 10) fun x64 =>
  sAndH x64 h (fun k_2 =>
  ldisc_Disc_local_c x0 (.int .i64 1) h fun x67 h_11 => 
  k_2 x67 h_11) fun x68 h_1 =>
  sAndH x68 h_1 (fun k_1 =>
  ldisc_Disc_local_c x0 (.int .i64 16) h_1 fun x71 h_10 => 
  k_1 x71 h_10) fun x72 h_2 =>
  sAndH x72 h_2 (fun k =>
  ldisc_Disc_local_c x0 (.int .i64 2) h_2 fun x75 h_9 => 
  sNot x75 fun x76 =>
  k x76 h_9) fun x77 h_3 =>
  sIf x77 (sNil x0 fun x80 =>
  sOff x80 22 fun x81 =>
  sLd h_3 x81 fun x82 =>
  sSlit h_3 #[.int .u8 0] [(0, 1, x1)] 5 1 fun x84 h_6 => 
  sApp h_6 x82 x84 #[.int .u8 0] 5 1 fun x85 h_7 => 
  sNil x0 fun x86 =>
  sOff x86 22 fun x87 =>
  sSt h_7 x87 x85 fun h_8 => 
  ldisc_Disc_put_j2 R x0 x1 h_8) (ldisc_Disc_put_j2 R x0 x1 h_3)
def ldisc_Disc_put_S (x0 x1 : Value) (h : Heap) (R : Value → Heap → Prop) : Prop :=
  ldisc_Disc_local_c x0 (.int .i64 1) h fun x9 h_12 => 
  sNot x9 fun x10 =>
  sAnd x10 (fun k_6 =>
  sNil x0 fun x13 =>
  sOff x13 19 fun x14 =>
  sLd h_12 x14 fun x15 =>
  sLen x15 fun x16 =>
  sLt x16 (.int .i64 1024) fun x17 =>
  k_6 x17) fun x18 =>
  sIf x18 (sNil x0 fun x21 =>
  sOff x21 19 fun x22 =>
  sLd h_12 x22 fun x23 =>
  sSlit h_12 #[.int .u8 0] [(0, 1, x1)] 5 1 fun x25 h_13 => 
  sApp h_13 x23 x25 #[.int .u8 0] 5 1 fun x26 h_14 => 
  sNil x0 fun x27 =>
  sOff x27 19 fun x28 =>
  sSt h_14 x28 x26 fun h_15 => 
  ldisc_Disc_put_j1 R x0 x1 h_15) (ldisc_Disc_local_c x0 (.int .i64 1) h_12 fun x31 h_16 => 
  sAndH x31 h_16 (fun k_3 =>
  sNil x0 fun x34 =>
  sOff x34 17 fun x35 =>
  sLd h_16 x35 fun x36 =>
  sLen x36 fun x37 =>
  sLt x37 (.int .i64 254) fun x38 =>
  sOrH x38 h_16 (fun k_4 =>
  ldisc_Disc_ends_c x0 x1 h_16 fun x42 h_23 => 
  sAnd x42 (fun k_5 =>
  sNil x0 fun x45 =>
  sOff x45 17 fun x46 =>
  sLd h_23 x46 fun x47 =>
  sLen x47 fun x48 =>
  sLt x48 (.int .i64 255) fun x49 =>
  k_5 x49) fun x50 =>
  k_4 x50 h_23) fun x51 h_22 =>
  k_3 x51 h_22) fun x52 h_17 =>
  sIf x52 (sNil x0 fun x55 =>
  sOff x55 17 fun x56 =>
  sLd h_17 x56 fun x57 =>
  sSlit h_17 #[.int .u8 0] [(0, 1, x1)] 5 1 fun x59 h_18 => 
  sApp h_18 x57 x59 #[.int .u8 0] 5 1 fun x60 h_19 => 
  sNil x0 fun x61 =>
  sOff x61 17 fun x62 =>
  sSt h_19 x62 x60 fun h_20 => 
  ldisc_Disc_put_j1 R x0 x1 h_20) (ldisc_Disc_bell_c x0 h_17 fun x6 h_21 => 
  R (.bool false) h_21))
set_option maxRecDepth 100000 in
theorem ldisc_Disc_put_runs {x0 x1 : Value} {h : Heap} {R : Value → Heap → Prop} (H : ldisc_Disc_put_S x0 x1 h R) : ldisc_Disc_put_c x0 x1 h R := by
  unfold ldisc_Disc_put_S at H
  refine runs_of (b := ⟨([x0, x1, undef, undef, undef, undef, undef, undef, undef, undef, undef, undef, undef, undef, undef, undef, undef, undef, undef, undef, undef, undef, undef, undef, undef, undef, undef, undef, undef, undef, undef, undef, undef, undef, undef, undef, undef, undef, undef, undef, undef, undef, undef, undef, undef, undef, undef, undef, undef, undef] ++ [undef, undef, undef, undef, undef, undef, undef, undef, undef, undef, undef, undef, undef, undef, undef, undef, undef, undef, undef, undef, undef, undef, undef, undef, undef, undef, undef, undef, undef, undef, undef, undef, undef, undef, undef, undef, undef, undef, undef, undef, undef]).toArray, []⟩) Try.call62 Try.func62 rfl (by kernel_rfl) (fun w0 HA => ?_)
  refine wp_seq ?_
  refine lwp_list ?_
  refine ls_assign (x := (.bool false)) (by kernel_rfl) (by kernel_rfl) ?_
  refine ls_nil ?_
  refine then_normal ?_
  refine fr_eq (b := ⟨([x0, x1, undef, undef, (.bool false), undef, undef, undef, undef, undef, undef, undef, undef, undef, undef, undef, undef, undef, undef, undef, undef, undef, undef, undef, undef, undef, undef, undef, undef, undef, undef, undef, undef, undef, undef, undef, undef, undef, undef, undef, undef, undef, undef, undef, undef, undef, undef, undef, undef, undef] ++ [undef, undef, undef, undef, undef, undef, undef, undef, undef, undef, undef, undef, undef, undef, undef, undef, undef, undef, undef, undef, undef, undef, undef, undef, undef, undef, undef, undef, undef, undef, undef, undef, undef, undef, undef, undef, undef, undef, undef, undef, undef]).toArray, []⟩) (by kernel_rfl) ?_
  refine wp_seq ?_
  refine wp_join (fun a w => ∃ (D : Nat → Value) (h : Heap), a = ⟨([x0, x1, undef, undef, (D 0), (D 1), (D 2), (D 3), (D 4), (D 5), (D 6), (D 7), (D 8), (D 9), (D 10), (D 11), (D 12), (D 13), (D 14), (D 15), (D 16), (D 17), (D 18), (D 19), (D 20), (D 21), (D 22), (D 23), (D 24), (D 25), (D 26), (D 27), (D 28), (D 29), (D 30), (D 31), (D 32), (D 33), (D 34), (D 35), (D 36), (D 37), (D 38), (D 39), (D 40), (D 41), (D 42), (D 43), (D 44), (D 45)] ++ [(D 46), (D 47), (D 48), (D 49), (D 50), (D 51), (D 52), (D 53), (D 54), (D 55), (D 56), (D 57), (D 58), undef, undef, undef, undef, undef, undef, undef, undef, undef, undef, undef, undef, undef, undef, undef, undef, undef, undef, undef, undef, undef, undef, undef, undef, undef, undef, undef, undef]).toArray, []⟩ ∧ At w0 w h ∧ ldisc_Disc_put_j1 R x0 x1 h) ?_ ?_
  · refine wp_block ?_
    refine wp_seq ?_
    refine lwp_list ?_
    refine ls_move (x := x0) (by kernel_rfl) (by kernel_rfl) ?_
    refine ls_d (d := some 9) (by kernel_rfl) (by kernel_rfl) HA (d_call (by kernel_rfl) (by kernel_rfl) H) (fun x9 h_12 w_12 H HA_12 => ?_)
    refine ls_p (d := some 10) (by kernel_rfl) (by kernel_rfl) (p_not (by kernel_rfl) H) (fun x10 H => ?_)
    refine ls_move (x := x10) (by kernel_rfl) (by kernel_rfl) ?_
    refine ls_and [(), (), (), (), (), (), ()] (fun K a w => ∃ (D_5 : Nat → Value) (x18 : Value), a = ⟨([x0, x1, undef, undef, (.bool false), undef, undef, undef, x0, x9, x10, x10, (D_5 0), (D_5 1), (D_5 2), (D_5 3), (D_5 4), (D_5 5), x18, undef, undef, undef, undef, undef, undef, undef, undef, undef, undef, undef, undef, undef, undef, undef, undef, undef, undef, undef, undef, undef, undef, undef, undef, undef, undef, undef, undef, undef, undef, undef] ++ [undef, undef, undef, undef, undef, undef, undef, undef, undef, undef, undef, undef, undef, undef, undef, undef, undef, undef, undef, undef, undef, undef, undef, undef, undef, undef, undef, undef, undef, undef, undef, undef, undef, undef, undef, undef, undef, undef, undef, undef, undef]).toArray, []⟩ ∧ At w0 w h_12 ∧ K x18) H (fun hb_6 H => ?_) (fun hb_6 H => ?_) ?_
    · refine ls_move (x := x0) (by rw [hb_6]; kernel_rfl) (by kernel_rfl) ?_
      refine ls_p (d := some 13) (by kernel_rfl) (by rw [hb_6]; kernel_rfl) (p_nil (by kernel_rfl) H) (fun x13 H => ?_)
      refine ls_fr (b := ⟨([x0, x1, undef, undef, (.bool false), undef, undef, undef, x0, x9, x10, x10, x0, x13, undef, undef, undef, undef, undef, undef, undef, undef, undef, undef, undef, undef, undef, undef, undef, undef, undef, undef, undef, undef, undef, undef, undef, undef, undef, undef, undef, undef, undef, undef, undef, undef, undef, undef, undef, undef] ++ [undef, undef, undef, undef, undef, undef, undef, undef, undef, undef, undef, undef, undef, undef, undef, undef, undef, undef, undef, undef, undef, undef, undef, undef, undef, undef, undef, undef, undef, undef, undef, undef, undef, undef, undef, undef, undef, undef, undef, undef, undef]).toArray, []⟩) (by kernel_rfl) ?_
      refine ls_p (d := some 14) (by kernel_rfl) (by rw [hb_6]; kernel_rfl) (p_off Try.underlying72 rfl (fun w => ⟨_, Try.sizeOf30 w⟩) rfl (by kernel_rfl) H) (fun x14 H => ?_)
      refine ls_y (d := some 15) (by kernel_rfl) (by rw [hb_6]; kernel_rfl) HA_12 (y_ld Try.isAgg30 (by kernel_rfl) H) (fun x15 H => ?_)
      refine ls_p (d := some 16) (by kernel_rfl) (by rw [hb_6]; kernel_rfl) (p_len Try.underlying30 (by kernel_rfl) H) (fun x16 H => ?_)
      refine ls_p (d := some 17) (by kernel_rfl) (by rw [hb_6]; kernel_rfl) (p_sLt (by kernel_rfl) (by kernel_rfl) H) (fun x17 H => ?_)
      refine ls_pick_t (x := x17) (by kernel_rfl) (by rw [hb_6]; kernel_rfl) (by kernel_rfl) ?_
      refine ls_nil ?_
      refine then_normal ?_
      exact ⟨(fun i => ([x0, x13, x14, x15, x16, x17]).getD i undef), x17, by kernel_rfl, HA_12, H⟩
    · refine ls_skip (d := some 12) (by kernel_rfl) (by rw [hb_6]; kernel_rfl) ?_
      refine ls_skip (d := some 13) (by kernel_rfl) (by rw [hb_6]; kernel_rfl) ?_
      refine ls_fr (b := ⟨([x0, x1, undef, undef, (.bool false), undef, undef, undef, x0, x9, x10, x10, undef, undef, undef, undef, undef, undef, undef, undef, undef, undef, undef, undef, undef, undef, undef, undef, undef, undef, undef, undef, undef, undef, undef, undef, undef, undef, undef, undef, undef, undef, undef, undef, undef, undef, undef, undef, undef, undef] ++ [undef, undef, undef, undef, undef, undef, undef, undef, undef, undef, undef, undef, undef, undef, undef, undef, undef, undef, undef, undef, undef, undef, undef, undef, undef, undef, undef, undef, undef, undef, undef, undef, undef, undef, undef, undef, undef, undef, undef, undef, undef]).toArray, []⟩) (by kernel_rfl) ?_
      refine ls_skip (d := some 14) (by kernel_rfl) (by rw [hb_6]; kernel_rfl) ?_
      refine ls_skip (d := some 15) (by kernel_rfl) (by rw [hb_6]; kernel_rfl) ?_
      refine ls_skip (d := some 16) (by kernel_rfl) (by rw [hb_6]; kernel_rfl) ?_
      refine ls_skip (d := some 17) (by kernel_rfl) (by rw [hb_6]; kernel_rfl) ?_
      refine ls_pick_f (y := (.bool false)) (by kernel_rfl) (by rw [hb_6]; kernel_rfl) (by kernel_rfl) ?_
      refine ls_nil ?_
      refine then_normal ?_
      exact ⟨(fun i => ([undef, undef, undef, undef, undef, undef]).getD i undef), (.bool false), by kernel_rfl, HA_12, H⟩
    · rintro _ w_13 ⟨D_5, x18, rfl, HA_13, H⟩
      refine ls_assign (x := x18) (by kernel_rfl) (by kernel_rfl) ?_
      refine ls_nil ?_
      refine then_normal ?_
      refine fr_eq (b := ⟨([x0, x1, undef, undef, (.bool false), undef, undef, x18, x0, x9, x10, x10, (D_5 0), (D_5 1), (D_5 2), (D_5 3), (D_5 4), (D_5 5), x18, undef, undef, undef, undef, undef, undef, undef, undef, undef, undef, undef, undef, undef, undef, undef, undef, undef, undef, undef, undef, undef, undef, undef, undef, undef, undef, undef, undef, undef, undef, undef] ++ [undef, undef, undef, undef, undef, undef, undef, undef, undef, undef, undef, undef, undef, undef, undef, undef, undef, undef, undef, undef, undef, undef, undef, undef, undef, undef, undef, undef, undef, undef, undef, undef, undef, undef, undef, undef, undef, undef, undef, undef, undef]).toArray, []⟩) (by kernel_rfl) ?_
      refine wp_if rfl H (fun H => ?_) (fun H => ?_)
      · refine lwp_list ?_
        refine ls_move (x := x0) (by kernel_rfl) (by kernel_rfl) ?_
        refine ls_move (x := x0) (by kernel_rfl) (by kernel_rfl) ?_
        refine ls_p (d := some 21) (by kernel_rfl) (by kernel_rfl) (p_nil (by kernel_rfl) H) (fun x21 H => ?_)
        refine ls_p (d := some 22) (by kernel_rfl) (by kernel_rfl) (p_off Try.underlying72 rfl (fun w => ⟨_, Try.sizeOf30 w⟩) rfl (by kernel_rfl) H) (fun x22 H => ?_)
        refine ls_y (d := some 23) (by kernel_rfl) (by kernel_rfl) HA_13 (y_ld Try.isAgg30 (by kernel_rfl) H) (fun x23 H => ?_)
        refine ls_move (x := x1) (by kernel_rfl) (by kernel_rfl) ?_
        refine ls_fr (b := ⟨([x0, x1, undef, undef, (.bool false), undef, undef, x18, x0, x9, x10, x10, (D_5 0), (D_5 1), (D_5 2), (D_5 3), (D_5 4), (D_5 5), x18, x0, x0, x21, x22, x23, x1, undef, undef, undef, undef, undef, undef, undef, undef, undef, undef, undef, undef, undef, undef, undef, undef, undef, undef, undef, undef, undef, undef, undef, undef, undef] ++ [undef, undef, undef, undef, undef, undef, undef, undef, undef, undef, undef, undef, undef, undef, undef, undef, undef, undef, undef, undef, undef, undef, undef, undef, undef, undef, undef, undef, undef, undef, undef, undef, undef, undef, undef, undef, undef, undef, undef, undef, undef]).toArray, []⟩) (by kernel_rfl) ?_
        refine ls_d (d := some 25) (by kernel_rfl) (by kernel_rfl) HA_13 (d_slit (zc := #[.int .u8 0]) Try.underlying30 Try.sizeOf5 (by decide) (.inr ⟨by decide, _, Try.zeroValue5, (by kernel_rfl)⟩) (by kernel_rfl) (by kernel_rfl) H) (fun x25 h_13 w_14 H HA_14 => ?_)
        refine ls_d (d := some 26) (by kernel_rfl) (by kernel_rfl) HA_14 (d_app (z := #[.int .u8 0]) Try.underlying30 Try.underlying30 (.inl ⟨_, rfl⟩) Try.typeInfo5 (by kernel_rfl) Try.sizeOf5 Try.zeroValue5 (by kernel_rfl) (by kernel_rfl) (by kernel_rfl) H) (fun x26 h_14 w_15 H HA_15 => ?_)
        refine ls_p (d := some 27) (by kernel_rfl) (by kernel_rfl) (p_nil (by kernel_rfl) H) (fun x27 H => ?_)
        refine ls_p (d := some 28) (by kernel_rfl) (by kernel_rfl) (p_off Try.underlying72 rfl (fun w => ⟨_, Try.sizeOf30 w⟩) rfl (by kernel_rfl) H) (fun x28 H => ?_)
        refine ls_d (d := none) (by kernel_rfl) (by kernel_rfl) HA_15 (d_st Try.sizeOf30 (by kernel_rfl) (by kernel_rfl) H) (fun _ h_15 w_16 H HA_16 => ?_)
        refine ls_nil ?_
        refine block_normal ?_
        exact ⟨(fun i => ([(.bool false), undef, undef, x18, x0, x9, x10, x10, (D_5 0), (D_5 1), (D_5 2), (D_5 3), (D_5 4), (D_5 5), x18, x0, x0, x21, x22, x23, x1, x25, x26, x27, x28, undef, undef, undef, undef, undef, undef, undef, undef, undef, undef, undef, undef, undef, undef, undef, undef, undef, undef, undef, undef, undef, undef, undef, undef, undef] ++ [undef, undef, undef, undef, undef, undef, undef, undef, undef]).getD i undef), h_15, by kernel_rfl, HA_16, H⟩
      · refine wp_seq ?_
        refine lwp_list ?_
        refine ls_move (x := x0) (by kernel_rfl) (by kernel_rfl) ?_
        refine ls_d (d := some 31) (by kernel_rfl) (by kernel_rfl) HA_13 (d_call (by kernel_rfl) (by kernel_rfl) H) (fun x31 h_16 w_17 H HA_17 => ?_)
        refine ls_move (x := x31) (by kernel_rfl) (by kernel_rfl) ?_
        refine ls_andh [(), (), (), (), (), (), (), (), (), (), (), (), (), (), (), (), (), (), (), ()] (fun K a w => ∃ (D_6 : Nat → Value) (x52 : Value) (h_17 : Heap), a = ⟨([x0, x1, undef, undef, (.bool false), undef, undef, x18, x0, x9, x10, x10, (D_5 0), (D_5 1), (D_5 2), (D_5 3), (D_5 4), (D_5 5), x18, undef, undef, undef, undef, undef, undef, undef, undef, undef, undef, undef, x0, x31, x31, (D_6 0), (D_6 1), (D_6 2), (D_6 3), (D_6 4), (D_6 5), (D_6 6), (D_6 7), (D_6 8), (D_6 9), (D_6 10), (D_6 11), (D_6 12), (D_6 13), (D_6 14), (D_6 15), (D_6 16)] ++ [(D_6 17), (D_6 18), x52, undef, undef, undef, undef, undef, undef, undef, undef, undef, undef, undef, undef, undef, undef, undef, undef, undef, undef, undef, undef, undef, undef, undef, undef, undef, undef, undef, undef, undef, undef, undef, undef, undef, undef, undef, undef, undef, undef]).toArray, []⟩ ∧ At w0 w h_17 ∧ K x52 h_17) H (fun hb_3 H => ?_) (fun hb_3 H => ?_) ?_
        · refine ls_move (x := x0) (by rw [hb_3]; kernel_rfl) (by kernel_rfl) ?_
          refine ls_p (d := some 34) (by kernel_rfl) (by rw [hb_3]; kernel_rfl) (p_nil (by kernel_rfl) H) (fun x34 H => ?_)
          refine ls_p (d := some 35) (by kernel_rfl) (by rw [hb_3]; kernel_rfl) (p_off Try.underlying72 rfl (fun w => ⟨_, Try.sizeOf30 w⟩) rfl (by kernel_rfl) H) (fun x35 H => ?_)
          refine ls_fr (b := ⟨([x0, x1, undef, undef, (.bool false), undef, undef, x18, x0, x9, x10, x10, (D_5 0), (D_5 1), (D_5 2), (D_5 3), (D_5 4), (D_5 5), x18, undef, undef, undef, undef, undef, undef, undef, undef, undef, undef, undef, x0, x31, x31, x0, x34, x35, undef, undef, undef, undef, undef, undef, undef, undef, undef, undef, undef, undef, undef, undef] ++ [undef, undef, undef, undef, undef, undef, undef, undef, undef, undef, undef, undef, undef, undef, undef, undef, undef, undef, undef, undef, undef, undef, undef, undef, undef, undef, undef, undef, undef, undef, undef, undef, undef, undef, undef, undef, undef, undef, undef, undef, undef]).toArray, []⟩) (by kernel_rfl) ?_
          refine ls_y (d := some 36) (by kernel_rfl) (by rw [hb_3]; kernel_rfl) HA_17 (y_ld Try.isAgg30 (by kernel_rfl) H) (fun x36 H => ?_)
          refine ls_p (d := some 37) (by kernel_rfl) (by rw [hb_3]; kernel_rfl) (p_len Try.underlying30 (by kernel_rfl) H) (fun x37 H => ?_)
          refine ls_p (d := some 38) (by kernel_rfl) (by rw [hb_3]; kernel_rfl) (p_sLt (by kernel_rfl) (by kernel_rfl) H) (fun x38 H => ?_)
          refine ls_move (x := x38) (by rw [hb_3]; kernel_rfl) (by kernel_rfl) ?_
          refine ls_orh [(), (), (), (), (), (), (), (), (), (), (), ()] (fun K a w => ∃ (D_7 : Nat → Value) (x51 : Value) (h_22 : Heap), a = ⟨([x0, x1, undef, undef, (.bool false), undef, undef, x18, x0, x9, x10, x10, (D_5 0), (D_5 1), (D_5 2), (D_5 3), (D_5 4), (D_5 5), x18, undef, undef, undef, undef, undef, undef, undef, undef, undef, undef, undef, x0, x31, x31, x0, x34, x35, x36, x37, x38, x38, (D_7 0), (D_7 1), (D_7 2), (D_7 3), (D_7 4), (D_7 5), (D_7 6), (D_7 7), (D_7 8), (D_7 9)] ++ [(D_7 10), x51, undef, undef, undef, undef, undef, undef, undef, undef, undef, undef, undef, undef, undef, undef, undef, undef, undef, undef, undef, undef, undef, undef, undef, undef, undef, undef, undef, undef, undef, undef, undef, undef, undef, undef, undef, undef, undef, undef, undef]).toArray, []⟩ ∧ At w0 w h_22 ∧ K x51 h_22) H (fun hb_4 H => ?_) (fun hb_4 H => ?_) ?_
          · refine ls_move (x := x0) (by rw [hb_4]; kernel_rfl) (by kernel_rfl) ?_
            refine ls_move (x := x1) (by rw [hb_4]; kernel_rfl) (by kernel_rfl) ?_
            refine ls_fr (b := ⟨([x0, x1, undef, undef, (.bool false), undef, undef, x18, x0, x9, x10, x10, (D_5 0), (D_5 1), (D_5 2), (D_5 3), (D_5 4), (D_5 5), x18, undef, undef, undef, undef, undef, undef, undef, undef, undef, undef, undef, x0, x31, x31, x0, x34, x35, x36, x37, x38, x38, x0, x1, undef, undef, undef, undef, undef, undef, undef, undef] ++ [undef, undef, undef, undef, undef, undef, undef, undef, undef, undef, undef, undef, undef, undef, undef, undef, undef, undef, undef, undef, undef, undef, undef, undef, undef, undef, undef, undef, undef, undef, undef, undef, undef, undef, undef, undef, undef, undef, undef, undef, undef]).toArray, []⟩) (by kernel_rfl) ?_
            refine ls_d (d := some 42) (by kernel_rfl) (by rw [hb_4]; kernel_rfl) HA_17 (d_call (by kernel_rfl) (by kernel_rfl) H) (fun x42 h_23 w_24 H HA_24 => ?_)
            refine ls_move (x := x42) (by rw [hb_4]; kernel_rfl) (by kernel_rfl) ?_
            refine ls_and [(), (), (), (), (), (), ()] (fun K a w => ∃ (D_8 : Nat → Value) (x50 : Value), a = ⟨([x0, x1, undef, undef, (.bool false), undef, undef, x18, x0, x9, x10, x10, (D_5 0), (D_5 1), (D_5 2), (D_5 3), (D_5 4), (D_5 5), x18, undef, undef, undef, undef, undef, undef, undef, undef, undef, undef, undef, x0, x31, x31, x0, x34, x35, x36, x37, x38, x38, x0, x1, x42, x42, (D_8 0), (D_8 1), (D_8 2), (D_8 3), (D_8 4), (D_8 5)] ++ [x50, undef, undef, undef, undef, undef, undef, undef, undef, undef, undef, undef, undef, undef, undef, undef, undef, undef, undef, undef, undef, undef, undef, undef, undef, undef, undef, undef, undef, undef, undef, undef, undef, undef, undef, undef, undef, undef, undef, undef, undef]).toArray, []⟩ ∧ At w0 w h_23 ∧ K x50) H (fun hb_5 H => ?_) (fun hb_5 H => ?_) ?_
            · refine ls_move (x := x0) (by rw [hb_5]; kernel_rfl) (by kernel_rfl) ?_
              refine ls_p (d := some 45) (by kernel_rfl) (by rw [hb_5]; kernel_rfl) (p_nil (by kernel_rfl) H) (fun x45 H => ?_)
              refine ls_p (d := some 46) (by kernel_rfl) (by rw [hb_5]; kernel_rfl) (p_off Try.underlying72 rfl (fun w => ⟨_, Try.sizeOf30 w⟩) rfl (by kernel_rfl) H) (fun x46 H => ?_)
              refine ls_y (d := some 47) (by kernel_rfl) (by rw [hb_5]; kernel_rfl) HA_24 (y_ld Try.isAgg30 (by kernel_rfl) H) (fun x47 H => ?_)
              refine ls_fr (b := ⟨([x0, x1, undef, undef, (.bool false), undef, undef, x18, x0, x9, x10, x10, (D_5 0), (D_5 1), (D_5 2), (D_5 3), (D_5 4), (D_5 5), x18, undef, undef, undef, undef, undef, undef, undef, undef, undef, undef, undef, x0, x31, x31, x0, x34, x35, x36, x37, x38, x38, x0, x1, x42, x42, x0, x45, x46, x47, undef, undef] ++ [undef, undef, undef, undef, undef, undef, undef, undef, undef, undef, undef, undef, undef, undef, undef, undef, undef, undef, undef, undef, undef, undef, undef, undef, undef, undef, undef, undef, undef, undef, undef, undef, undef, undef, undef, undef, undef, undef, undef, undef, undef]).toArray, []⟩) (by kernel_rfl) ?_
              refine ls_p (d := some 48) (by kernel_rfl) (by rw [hb_5]; kernel_rfl) (p_len Try.underlying30 (by kernel_rfl) H) (fun x48 H => ?_)
              refine ls_p (d := some 49) (by kernel_rfl) (by rw [hb_5]; kernel_rfl) (p_sLt (by kernel_rfl) (by kernel_rfl) H) (fun x49 H => ?_)
              refine ls_pick_t (x := x49) (by rw [hb_4]; kernel_rfl) (by rw [hb_5]; kernel_rfl) (by kernel_rfl) ?_
              refine ls_nil ?_
              refine then_normal ?_
              exact ⟨(fun i => ([x0, x45, x46, x47, x48, x49]).getD i undef), x49, by kernel_rfl, HA_24, H⟩
            · refine ls_skip (d := some 44) (by kernel_rfl) (by rw [hb_5]; kernel_rfl) ?_
              refine ls_skip (d := some 45) (by kernel_rfl) (by rw [hb_5]; kernel_rfl) ?_
              refine ls_skip (d := some 46) (by kernel_rfl) (by rw [hb_5]; kernel_rfl) ?_
              refine ls_skip (d := some 47) (by kernel_rfl) (by rw [hb_5]; kernel_rfl) ?_
              refine ls_fr (b := ⟨([x0, x1, undef, undef, (.bool false), undef, undef, x18, x0, x9, x10, x10, (D_5 0), (D_5 1), (D_5 2), (D_5 3), (D_5 4), (D_5 5), x18, undef, undef, undef, undef, undef, undef, undef, undef, undef, undef, undef, x0, x31, x31, x0, x34, x35, x36, x37, x38, x38, x0, x1, x42, x42, undef, undef, undef, undef, undef, undef] ++ [undef, undef, undef, undef, undef, undef, undef, undef, undef, undef, undef, undef, undef, undef, undef, undef, undef, undef, undef, undef, undef, undef, undef, undef, undef, undef, undef, undef, undef, undef, undef, undef, undef, undef, undef, undef, undef, undef, undef, undef, undef]).toArray, []⟩) (by kernel_rfl) ?_
              refine ls_skip (d := some 48) (by kernel_rfl) (by rw [hb_5]; kernel_rfl) ?_
              refine ls_skip (d := some 49) (by kernel_rfl) (by rw [hb_5]; kernel_rfl) ?_
              refine ls_pick_f (y := (.bool false)) (by rw [hb_4]; kernel_rfl) (by rw [hb_5]; kernel_rfl) (by kernel_rfl) ?_
              refine ls_nil ?_
              refine then_normal ?_
              exact ⟨(fun i => ([undef, undef, undef, undef, undef, undef]).getD i undef), (.bool false), by kernel_rfl, HA_24, H⟩
            · rintro _ w_25 ⟨D_8, x50, rfl, HA_25, H⟩
              refine ls_pick_f (y := x50) (by rw [hb_3]; kernel_rfl) (by rw [hb_4]; kernel_rfl) (by kernel_rfl) ?_
              refine ls_nil ?_
              refine then_normal ?_
              exact ⟨(fun i => ([x0, x1, x42, x42, (D_8 0), (D_8 1), (D_8 2), (D_8 3), (D_8 4), (D_8 5), x50]).getD i undef), x50, h_23, by kernel_rfl, HA_25, H⟩
          · refine ls_skip (d := some 40) (by kernel_rfl) (by rw [hb_4]; kernel_rfl) ?_
            refine ls_skip (d := some 41) (by kernel_rfl) (by rw [hb_4]; kernel_rfl) ?_
            refine ls_fr (b := ⟨([x0, x1, undef, undef, (.bool false), undef, undef, x18, x0, x9, x10, x10, (D_5 0), (D_5 1), (D_5 2), (D_5 3), (D_5 4), (D_5 5), x18, undef, undef, undef, undef, undef, undef, undef, undef, undef, undef, undef, x0, x31, x31, x0, x34, x35, x36, x37, x38, x38, undef, undef, undef, undef, undef, undef, undef, undef, undef, undef] ++ [undef, undef, undef, undef, undef, undef, undef, undef, undef, undef, undef, undef, undef, undef, undef, undef, undef, undef, undef, undef, undef, undef, undef, undef, undef, undef, undef, undef, undef, undef, undef, undef, undef, undef, undef, undef, undef, undef, undef, undef, undef]).toArray, []⟩) (by kernel_rfl) ?_
            refine ls_skip (d := some 42) (by kernel_rfl) (by rw [hb_4]; kernel_rfl) ?_
            refine ls_skip (d := some 43) (by kernel_rfl) (by rw [hb_4]; kernel_rfl) ?_
            refine ls_skip (d := some 44) (by kernel_rfl) (by kernel_rfl) ?_
            refine ls_skip (d := some 45) (by kernel_rfl) (by kernel_rfl) ?_
            refine ls_skip (d := some 46) (by kernel_rfl) (by kernel_rfl) ?_
            refine ls_skip (d := some 47) (by kernel_rfl) (by kernel_rfl) ?_
            refine ls_fr (b := ⟨([x0, x1, undef, undef, (.bool false), undef, undef, x18, x0, x9, x10, x10, (D_5 0), (D_5 1), (D_5 2), (D_5 3), (D_5 4), (D_5 5), x18, undef, undef, undef, undef, undef, undef, undef, undef, undef, undef, undef, x0, x31, x31, x0, x34, x35, x36, x37, x38, x38, undef, undef, undef, undef, undef, undef, undef, undef, undef, undef] ++ [undef, undef, undef, undef, undef, undef, undef, undef, undef, undef, undef, undef, undef, undef, undef, undef, undef, undef, undef, undef, undef, undef, undef, undef, undef, undef, undef, undef, undef, undef, undef, undef, undef, undef, undef, undef, undef, undef, undef, undef, undef]).toArray, []⟩) (by kernel_rfl) ?_
            refine ls_skip (d := some 48) (by kernel_rfl) (by kernel_rfl) ?_
            refine ls_skip (d := some 49) (by kernel_rfl) (by kernel_rfl) ?_
            refine ls_skip (d := some 50) (by kernel_rfl) (by rw [hb_4]; kernel_rfl) ?_
            refine ls_pick_t (x := (.bool true)) (by rw [hb_3]; kernel_rfl) (by rw [hb_4]; kernel_rfl) (by kernel_rfl) ?_
            refine ls_nil ?_
            refine then_normal ?_
            exact ⟨(fun i => ([undef, undef, undef, undef, undef, undef, undef, undef, undef, undef, undef]).getD i undef), (.bool true), h_16, by kernel_rfl, HA_17, H⟩
          · rintro _ w_23 ⟨D_7, x51, h_22, rfl, HA_23, H⟩
            refine ls_pick_t (x := x51) (by kernel_rfl) (by rw [hb_3]; kernel_rfl) (by kernel_rfl) ?_
            refine ls_nil ?_
            refine then_normal ?_
            exact ⟨(fun i => ([x0, x34, x35, x36, x37, x38, x38, (D_7 0), (D_7 1), (D_7 2), (D_7 3), (D_7 4), (D_7 5), (D_7 6), (D_7 7), (D_7 8), (D_7 9), (D_7 10), x51]).getD i undef), x51, h_22, by kernel_rfl, HA_23, H⟩
        · refine ls_skip (d := some 33) (by kernel_rfl) (by rw [hb_3]; kernel_rfl) ?_
          refine ls_skip (d := some 34) (by kernel_rfl) (by rw [hb_3]; kernel_rfl) ?_
          refine ls_skip (d := some 35) (by kernel_rfl) (by rw [hb_3]; kernel_rfl) ?_
          refine ls_fr (b := ⟨([x0, x1, undef, undef, (.bool false), undef, undef, x18, x0, x9, x10, x10, (D_5 0), (D_5 1), (D_5 2), (D_5 3), (D_5 4), (D_5 5), x18, undef, undef, undef, undef, undef, undef, undef, undef, undef, undef, undef, x0, x31, x31, undef, undef, undef, undef, undef, undef, undef, undef, undef, undef, undef, undef, undef, undef, undef, undef, undef] ++ [undef, undef, undef, undef, undef, undef, undef, undef, undef, undef, undef, undef, undef, undef, undef, undef, undef, undef, undef, undef, undef, undef, undef, undef, undef, undef, undef, undef, undef, undef, undef, undef, undef, undef, undef, undef, undef, undef, undef, undef, undef]).toArray, []⟩) (by kernel_rfl) ?_
          refine ls_skip (d := some 36) (by kernel_rfl) (by rw [hb_3]; kernel_rfl) ?_
          refine ls_skip (d := some 37) (by kernel_rfl) (by rw [hb_3]; kernel_rfl) ?_
          refine ls_skip (d := some 38) (by kernel_rfl) (by rw [hb_3]; kernel_rfl) ?_
          refine ls_skip (d := some 39) (by kernel_rfl) (by rw [hb_3]; kernel_rfl) ?_
          refine ls_skip (d := some 40) (by kernel_rfl) (by kernel_rfl) ?_
          refine ls_skip (d := some 41) (by kernel_rfl) (by kernel_rfl) ?_
          refine ls_fr (b := ⟨([x0, x1, undef, undef, (.bool false), undef, undef, x18, x0, x9, x10, x10, (D_5 0), (D_5 1), (D_5 2), (D_5 3), (D_5 4), (D_5 5), x18, undef, undef, undef, undef, undef, undef, undef, undef, undef, undef, undef, x0, x31, x31, undef, undef, undef, undef, undef, undef, undef, undef, undef, undef, undef, undef, undef, undef, undef, undef, undef] ++ [undef, undef, undef, undef, undef, undef, undef, undef, undef, undef, undef, undef, undef, undef, undef, undef, undef, undef, undef, undef, undef, undef, undef, undef, undef, undef, undef, undef, undef, undef, undef, undef, undef, undef, undef, undef, undef, undef, undef, undef, undef]).toArray, []⟩) (by kernel_rfl) ?_
          refine ls_skip (d := some 42) (by kernel_rfl) (by kernel_rfl) ?_
          refine ls_skip (d := some 43) (by kernel_rfl) (by kernel_rfl) ?_
          refine ls_skip (d := some 44) (by kernel_rfl) (by kernel_rfl) ?_
          refine ls_skip (d := some 45) (by kernel_rfl) (by kernel_rfl) ?_
          refine ls_skip (d := some 46) (by kernel_rfl) (by kernel_rfl) ?_
          refine ls_skip (d := some 47) (by kernel_rfl) (by kernel_rfl) ?_
          refine ls_fr (b := ⟨([x0, x1, undef, undef, (.bool false), undef, undef, x18, x0, x9, x10, x10, (D_5 0), (D_5 1), (D_5 2), (D_5 3), (D_5 4), (D_5 5), x18, undef, undef, undef, undef, undef, undef, undef, undef, undef, undef, undef, x0, x31, x31, undef, undef, undef, undef, undef, undef, undef, undef, undef, undef, undef, undef, undef, undef, undef, undef, undef] ++ [undef, undef, undef, undef, undef, undef, undef, undef, undef, undef, undef, undef, undef, undef, undef, undef, undef, undef, undef, undef, undef, undef, undef, undef, undef, undef, undef, undef, undef, undef, undef, undef, undef, undef, undef, undef, undef, undef, undef, undef, undef]).toArray, []⟩) (by kernel_rfl) ?_
          refine ls_skip (d := some 48) (by kernel_rfl) (by kernel_rfl) ?_
          refine ls_skip (d := some 49) (by kernel_rfl) (by kernel_rfl) ?_
          refine ls_skip (d := some 50) (by kernel_rfl) (by kernel_rfl) ?_
          refine ls_skip (d := some 51) (by kernel_rfl) (by rw [hb_3]; kernel_rfl) ?_
          refine ls_pick_f (y := (.bool false)) (by kernel_rfl) (by rw [hb_3]; kernel_rfl) (by kernel_rfl) ?_
          refine ls_nil ?_
          refine then_normal ?_
          exact ⟨(fun i => ([undef, undef, undef, undef, undef, undef, undef, undef, undef, undef, undef, undef, undef, undef, undef, undef, undef, undef, undef]).getD i undef), (.bool false), h_16, by kernel_rfl, HA_17, H⟩
        · rintro _ w_18 ⟨D_6, x52, h_17, rfl, HA_18, H⟩
          refine ls_assign (x := x52) (by kernel_rfl) (by kernel_rfl) ?_
          refine ls_nil ?_
          refine then_normal ?_
          refine fr_eq (b := ⟨([x0, x1, undef, undef, (.bool false), undef, undef, x18, x0, x9, x10, x10, (D_5 0), (D_5 1), (D_5 2), (D_5 3), (D_5 4), (D_5 5), x18, undef, undef, undef, undef, undef, undef, undef, undef, undef, undef, x52, x0, x31, x31, (D_6 0), (D_6 1), (D_6 2), (D_6 3), (D_6 4), (D_6 5), (D_6 6), (D_6 7), (D_6 8), (D_6 9), (D_6 10), (D_6 11), (D_6 12), (D_6 13), (D_6 14), (D_6 15), (D_6 16)] ++ [(D_6 17), (D_6 18), x52, undef, undef, undef, undef, undef, undef, undef, undef, undef, undef, undef, undef, undef, undef, undef, undef, undef, undef, undef, undef, undef, undef, undef, undef, undef, undef, undef, undef, undef, undef, undef, undef, undef, undef, undef, undef, undef, undef]).toArray, []⟩) (by kernel_rfl) ?_
          refine wp_if rfl H (fun H => ?_) (fun H => ?_)
          · refine lwp_list ?_
            refine ls_move (x := x0) (by kernel_rfl) (by kernel_rfl) ?_
            refine ls_move (x := x0) (by kernel_rfl) (by kernel_rfl) ?_
            refine ls_p (d := some 55) (by kernel_rfl) (by kernel_rfl) (p_nil (by kernel_rfl) H) (fun x55 H => ?_)
            refine ls_p (d := some 56) (by kernel_rfl) (by kernel_rfl) (p_off Try.underlying72 rfl (fun w => ⟨_, Try.sizeOf30 w⟩) rfl (by kernel_rfl) H) (fun x56 H => ?_)
            refine ls_y (d := some 57) (by kernel_rfl) (by kernel_rfl) HA_18 (y_ld Try.isAgg30 (by kernel_rfl) H) (fun x57 H => ?_)
            refine ls_move (x := x1) (by kernel_rfl) (by kernel_rfl) ?_
            refine ls_fr (b := ⟨([x0, x1, undef, undef, (.bool false), undef, undef, x18, x0, x9, x10, x10, (D_5 0), (D_5 1), (D_5 2), (D_5 3), (D_5 4), (D_5 5), x18, undef, undef, undef, undef, undef, undef, undef, undef, undef, undef, x52, x0, x31, x31, (D_6 0), (D_6 1), (D_6 2), (D_6 3), (D_6 4), (D_6 5), (D_6 6), (D_6 7), (D_6 8), (D_6 9), (D_6 10), (D_6 11), (D_6 12), (D_6 13), (D_6 14), (D_6 15), (D_6 16)] ++ [(D_6 17), (D_6 18), x52, x0, x0, x55, x56, x57, x1, undef, undef, undef, undef, undef, undef, undef, undef, undef, undef, undef, undef, undef, undef, undef, undef, undef, undef, undef, undef, undef, undef, undef, undef, undef, undef, undef, undef, undef, undef, undef, undef]).toArray, []⟩) (by kernel_rfl) ?_
            refine ls_d (d := some 59) (by kernel_rfl) (by kernel_rfl) HA_18 (d_slit (zc := #[.int .u8 0]) Try.underlying30 Try.sizeOf5 (by decide) (.inr ⟨by decide, _, Try.zeroValue5, (by kernel_rfl)⟩) (by kernel_rfl) (by kernel_rfl) H) (fun x59 h_18 w_19 H HA_19 => ?_)
            refine ls_d (d := some 60) (by kernel_rfl) (by kernel_rfl) HA_19 (d_app (z := #[.int .u8 0]) Try.underlying30 Try.underlying30 (.inl ⟨_, rfl⟩) Try.typeInfo5 (by kernel_rfl) Try.sizeOf5 Try.zeroValue5 (by kernel_rfl) (by kernel_rfl) (by kernel_rfl) H) (fun x60 h_19 w_20 H HA_20 => ?_)
            refine ls_p (d := some 61) (by kernel_rfl) (by kernel_rfl) (p_nil (by kernel_rfl) H) (fun x61 H => ?_)
            refine ls_p (d := some 62) (by kernel_rfl) (by kernel_rfl) (p_off Try.underlying72 rfl (fun w => ⟨_, Try.sizeOf30 w⟩) rfl (by kernel_rfl) H) (fun x62 H => ?_)
            refine ls_d (d := none) (by kernel_rfl) (by kernel_rfl) HA_20 (d_st Try.sizeOf30 (by kernel_rfl) (by kernel_rfl) H) (fun _ h_20 w_21 H HA_21 => ?_)
            refine ls_nil ?_
            refine block_normal ?_
            exact ⟨(fun i => ([(.bool false), undef, undef, x18, x0, x9, x10, x10, (D_5 0), (D_5 1), (D_5 2), (D_5 3), (D_5 4), (D_5 5), x18, undef, undef, undef, undef, undef, undef, undef, undef, undef, undef, x52, x0, x31, x31, (D_6 0), (D_6 1), (D_6 2), (D_6 3), (D_6 4), (D_6 5), (D_6 6), (D_6 7), (D_6 8), (D_6 9), (D_6 10), (D_6 11), (D_6 12), (D_6 13), (D_6 14), (D_6 15), (D_6 16), (D_6 17), (D_6 18), x52, x0] ++ [x0, x55, x56, x57, x1, x59, x60, x61, x62]).getD i undef), h_20, by kernel_rfl, HA_21, H⟩
          · refine wp_seq ?_
            refine lwp_list ?_
            refine ls_move (x := x0) (by kernel_rfl) (by kernel_rfl) ?_
            refine ls_d (d := some 6) (by kernel_rfl) (by kernel_rfl) HA_18 (d_call (by kernel_rfl) (by kernel_rfl) H) (fun x6 h_21 w_22 H HA_22 => ?_)
            refine ls_nil ?_
            refine then_normal ?_
            refine fr_eq (b := ⟨([x0, x1, undef, undef, (.bool false), x0, x6, x18, x0, x9, x10, x10, (D_5 0), (D_5 1), (D_5 2), (D_5 3), (D_5 4), (D_5 5), x18, undef, undef, undef, undef, undef, undef, undef, undef, undef, undef, x52, x0, x31, x31, (D_6 0), (D_6 1), (D_6 2), (D_6 3), (D_6 4), (D_6 5), (D_6 6), (D_6 7), (D_6 8), (D_6 9), (D_6 10), (D_6 11), (D_6 12), (D_6 13), (D_6 14), (D_6 15), (D_6 16)] ++ [(D_6 17), (D_6 18), x52, undef, undef, undef, undef, undef, undef, undef, undef, undef, undef, undef, undef, undef, undef, undef, undef, undef, undef, undef, undef, undef, undef, undef, undef, undef, undef, undef, undef, undef, undef, undef, undef, undef, undef, undef, undef, undef, undef]).toArray, []⟩) (by kernel_rfl) ?_
            refine wp_seq ?_
            refine lwp_list ?_
            refine ls_assign (x := (.bool false)) (by kernel_rfl) (by kernel_rfl) ?_
            refine ls_nil ?_
            refine then_normal ?_
            refine fr_eq (b := ⟨([x0, x1, undef, undef, (.bool false), x0, x6, x18, x0, x9, x10, x10, (D_5 0), (D_5 1), (D_5 2), (D_5 3), (D_5 4), (D_5 5), x18, undef, undef, undef, undef, undef, undef, undef, undef, undef, undef, x52, x0, x31, x31, (D_6 0), (D_6 1), (D_6 2), (D_6 3), (D_6 4), (D_6 5), (D_6 6), (D_6 7), (D_6 8), (D_6 9), (D_6 10), (D_6 11), (D_6 12), (D_6 13), (D_6 14), (D_6 15), (D_6 16)] ++ [(D_6 17), (D_6 18), x52, undef, undef, undef, undef, undef, undef, undef, undef, undef, undef, undef, undef, undef, undef, undef, undef, undef, undef, undef, undef, undef, undef, undef, undef, undef, undef, undef, undef, undef, undef, undef, undef, undef, undef, undef, undef, undef, undef]).toArray, []⟩) (by kernel_rfl) ?_
            refine wp_ret ?_
            refine block_ret ?_
            refine then_ret ?_
            refine then_ret ?_
            exact end1 (Try.results62) (by kernel_rfl) (by kernel_rfl) HA_22 H _ (.inr rfl)
  · rintro _ w ⟨D, h, rfl, HA, H⟩
    unfold ldisc_Disc_put_j1 at H
    refine then_normal ?_
    refine fr_eq (b := ⟨([x0, x1, undef, undef, (D 0), (D 1), (D 2), (D 3), (D 4), (D 5), (D 6), (D 7), (D 8), (D 9), (D 10), (D 11), (D 12), (D 13), (D 14), (D 15), (D 16), (D 17), (D 18), (D 19), (D 20), (D 21), (D 22), (D 23), (D 24), (D 25), (D 26), (D 27), (D 28), (D 29), (D 30), (D 31), (D 32), (D 33), (D 34), (D 35), (D 36), (D 37), (D 38), (D 39), (D 40), (D 41), (D 42), (D 43), (D 44), (D 45)] ++ [(D 46), (D 47), (D 48), (D 49), (D 50), (D 51), (D 52), (D 53), (D 54), (D 55), (D 56), (D 57), (D 58), undef, undef, undef, undef, undef, undef, undef, undef, undef, undef, undef, undef, undef, undef, undef, undef, undef, undef, undef, undef, undef, undef, undef, undef, undef, undef, undef, undef]).toArray, []⟩) (by kernel_rfl) ?_
    refine wp_seq ?_
    refine wp_seq ?_
    refine lwp_list ?_
    refine ls_move (x := x1) (by kernel_rfl) (by kernel_rfl) ?_
    refine ls_p (d := some 64) (by kernel_rfl) (by kernel_rfl) (p_sEq (by kernel_rfl) (by kernel_rfl) H) (fun x64 H => ?_)
    refine ls_move (x := x64) (by kernel_rfl) (by kernel_rfl) ?_
    refine ls_andh [(), (), ()] (fun K a w => ∃ (D_1 : Nat → Value) (x68 : Value) (h_1 : Heap), a = ⟨([x0, x1, undef, undef, (D 0), (D 1), (D 2), (D 3), (D 4), (D 5), (D 6), (D 7), (D 8), (D 9), (D 10), (D 11), (D 12), (D 13), (D 14), (D 15), (D 16), (D 17), (D 18), (D 19), (D 20), (D 21), (D 22), (D 23), (D 24), (D 25), (D 26), (D 27), (D 28), (D 29), (D 30), (D 31), (D 32), (D 33), (D 34), (D 35), (D 36), (D 37), (D 38), (D 39), (D 40), (D 41), (D 42), (D 43), (D 44), (D 45)] ++ [(D 46), (D 47), (D 48), (D 49), (D 50), (D 51), (D 52), (D 53), (D 54), (D 55), (D 56), (D 57), (D 58), x1, x64, x64, (D_1 0), (D_1 1), x68, undef, undef, undef, undef, undef, undef, undef, undef, undef, undef, undef, undef, undef, undef, undef, undef, undef, undef, undef, undef, undef, undef]).toArray, []⟩ ∧ At w0 w h_1 ∧ K x68 h_1) H (fun hb_2 H => ?_) (fun hb_2 H => ?_) ?_
    · refine ls_move (x := x0) (by rw [hb_2]; kernel_rfl) (by kernel_rfl) ?_
      refine ls_d (d := some 67) (by kernel_rfl) (by rw [hb_2]; kernel_rfl) HA (d_call (by kernel_rfl) (by kernel_rfl) H) (fun x67 h_11 w_11 H HA_11 => ?_)
      refine ls_pick_t (x := x67) (by kernel_rfl) (by rw [hb_2]; kernel_rfl) (by kernel_rfl) ?_
      refine ls_nil ?_
      refine then_normal ?_
      exact ⟨(fun i => ([x0, x67]).getD i undef), x67, h_11, by kernel_rfl, HA_11, H⟩
    · refine ls_skip (d := some 66) (by kernel_rfl) (by rw [hb_2]; kernel_rfl) ?_
      refine ls_skip (d := some 67) (by kernel_rfl) (by rw [hb_2]; kernel_rfl) ?_
      refine ls_pick_f (y := (.bool false)) (by kernel_rfl) (by rw [hb_2]; kernel_rfl) (by kernel_rfl) ?_
      refine ls_nil ?_
      refine then_normal ?_
      exact ⟨(fun i => ([undef, undef]).getD i undef), (.bool false), h, by kernel_rfl, HA, H⟩
    · rintro _ w_1 ⟨D_1, x68, h_1, rfl, HA_1, H⟩
      refine ls_move (x := x68) (by kernel_rfl) (by kernel_rfl) ?_
      refine ls_andh [(), (), ()] (fun K a w => ∃ (D_2 : Nat → Value) (x72 : Value) (h_2 : Heap), a = ⟨([x0, x1, undef, undef, (D 0), (D 1), (D 2), (D 3), (D 4), (D 5), (D 6), (D 7), (D 8), (D 9), (D 10), (D 11), (D 12), (D 13), (D 14), (D 15), (D 16), (D 17), (D 18), (D 19), (D 20), (D 21), (D 22), (D 23), (D 24), (D 25), (D 26), (D 27), (D 28), (D 29), (D 30), (D 31), (D 32), (D 33), (D 34), (D 35), (D 36), (D 37), (D 38), (D 39), (D 40), (D 41), (D 42), (D 43), (D 44), (D 45)] ++ [(D 46), (D 47), (D 48), (D 49), (D 50), (D 51), (D 52), (D 53), (D 54), (D 55), (D 56), (D 57), (D 58), x1, x64, x64, (D_1 0), (D_1 1), x68, x68, (D_2 0), (D_2 1), x72, undef, undef, undef, undef, undef, undef, undef, undef, undef, undef, undef, undef, undef, undef, undef, undef, undef, undef]).toArray, []⟩ ∧ At w0 w h_2 ∧ K x72 h_2) H (fun hb_1 H => ?_) (fun hb_1 H => ?_) ?_
      · refine ls_move (x := x0) (by rw [hb_1]; kernel_rfl) (by kernel_rfl) ?_
        refine ls_d (d := some 71) (by kernel_rfl) (by rw [hb_1]; kernel_rfl) HA_1 (d_call (by kernel_rfl) (by kernel_rfl) H) (fun x71 h_10 w_10 H HA_10 => ?_)
        refine ls_pick_t (x := x71) (by kernel_rfl) (by rw [hb_1]; kernel_rfl) (by kernel_rfl) ?_
        refine ls_nil ?_
        refine then_normal ?_
        exact ⟨(fun i => ([x0, x71]).getD i undef), x71, h_10, by kernel_rfl, HA_10, H⟩
      · refine ls_skip (d := some 70) (by kernel_rfl) (by rw [hb_1]; kernel_rfl) ?_
        refine ls_skip (d := some 71) (by kernel_rfl) (by rw [hb_1]; kernel_rfl) ?_
        refine ls_pick_f (y := (.bool false)) (by kernel_rfl) (by rw [hb_1]; kernel_rfl) (by kernel_rfl) ?_
        refine ls_nil ?_
        refine then_normal ?_
        exact ⟨(fun i => ([undef, undef]).getD i undef), (.bool false), h_1, by kernel_rfl, HA_1, H⟩
      · rintro _ w_2 ⟨D_2, x72, h_2, rfl, HA_2, H⟩
        refine ls_move (x := x72) (by kernel_rfl) (by kernel_rfl) ?_
        refine ls_andh [(), (), (), ()] (fun K a w => ∃ (D_3 : Nat → Value) (x77 : Value) (h_3 : Heap), a = ⟨([x0, x1, undef, undef, (D 0), (D 1), (D 2), (D 3), (D 4), (D 5), (D 6), (D 7), (D 8), (D 9), (D 10), (D 11), (D 12), (D 13), (D 14), (D 15), (D 16), (D 17), (D 18), (D 19), (D 20), (D 21), (D 22), (D 23), (D 24), (D 25), (D 26), (D 27), (D 28), (D 29), (D 30), (D 31), (D 32), (D 33), (D 34), (D 35), (D 36), (D 37), (D 38), (D 39), (D 40), (D 41), (D 42), (D 43), (D 44), (D 45)] ++ [(D 46), (D 47), (D 48), (D 49), (D 50), (D 51), (D 52), (D 53), (D 54), (D 55), (D 56), (D 57), (D 58), x1, x64, x64, (D_1 0), (D_1 1), x68, x68, (D_2 0), (D_2 1), x72, x72, (D_3 0), (D_3 1), (D_3 2), x77, undef, undef, undef, undef, undef, undef, undef, undef, undef, undef, undef, undef, undef]).toArray, []⟩ ∧ At w0 w h_3 ∧ K x77 h_3) H (fun hb H => ?_) (fun hb H => ?_) ?_
        · refine ls_move (x := x0) (by rw [hb]; kernel_rfl) (by kernel_rfl) ?_
          refine ls_d (d := some 75) (by kernel_rfl) (by rw [hb]; kernel_rfl) HA_2 (d_call (by kernel_rfl) (by kernel_rfl) H) (fun x75 h_9 w_9 H HA_9 => ?_)
          refine ls_p (d := some 76) (by kernel_rfl) (by rw [hb]; kernel_rfl) (p_not (by kernel_rfl) H) (fun x76 H => ?_)
          refine ls_pick_t (x := x76) (by kernel_rfl) (by rw [hb]; kernel_rfl) (by kernel_rfl) ?_
          refine ls_nil ?_
          refine then_normal ?_
          exact ⟨(fun i => ([x0, x75, x76]).getD i undef), x76, h_9, by kernel_rfl, HA_9, H⟩
        · refine ls_skip (d := some 74) (by kernel_rfl) (by rw [hb]; kernel_rfl) ?_
          refine ls_skip (d := some 75) (by kernel_rfl) (by rw [hb]; kernel_rfl) ?_
          refine ls_skip (d := some 76) (by kernel_rfl) (by rw [hb]; kernel_rfl) ?_
          refine ls_pick_f (y := (.bool false)) (by kernel_rfl) (by rw [hb]; kernel_rfl) (by kernel_rfl) ?_
          refine ls_nil ?_
          refine then_normal ?_
          exact ⟨(fun i => ([undef, undef, undef]).getD i undef), (.bool false), h_2, by kernel_rfl, HA_2, H⟩
        · rintro _ w_3 ⟨D_3, x77, h_3, rfl, HA_3, H⟩
          refine ls_nil ?_
          refine then_normal ?_
          refine fr_eq (b := ⟨([x0, x1, undef, undef, (D 0), (D 1), (D 2), (D 3), (D 4), (D 5), (D 6), (D 7), (D 8), (D 9), (D 10), (D 11), (D 12), (D 13), (D 14), (D 15), (D 16), (D 17), (D 18), (D 19), (D 20), (D 21), (D 22), (D 23), (D 24), (D 25), (D 26), (D 27), (D 28), (D 29), (D 30), (D 31), (D 32), (D 33), (D 34), (D 35), (D 36), (D 37), (D 38), (D 39), (D 40), (D 41), (D 42), (D 43), (D 44), (D 45)] ++ [(D 46), (D 47), (D 48), (D 49), (D 50), (D 51), (D 52), (D 53), (D 54), (D 55), (D 56), (D 57), (D 58), x1, x64, x64, (D_1 0), (D_1 1), x68, x68, (D_2 0), (D_2 1), x72, x72, (D_3 0), (D_3 1), (D_3 2), x77, undef, undef, undef, undef, undef, undef, undef, undef, undef, undef, undef, undef, undef]).toArray, []⟩) (by kernel_rfl) ?_
          refine wp_join (fun a w => ∃ (D_4 : Nat → Value) (h_4 : Heap), a = ⟨([x0, x1, undef, undef, (D 0), (D 1), (D 2), (D 3), (D 4), (D 5), (D 6), (D 7), (D 8), (D 9), (D 10), (D 11), (D 12), (D 13), (D 14), (D 15), (D 16), (D 17), (D 18), (D 19), (D 20), (D 21), (D 22), (D 23), (D 24), (D 25), (D 26), (D 27), (D 28), (D 29), (D 30), (D 31), (D 32), (D 33), (D 34), (D 35), (D 36), (D 37), (D 38), (D 39), (D 40), (D 41), (D 42), (D 43), (D 44), (D 45)] ++ [(D 46), (D 47), (D 48), (D 49), (D 50), (D 51), (D 52), (D 53), (D 54), (D 55), (D 56), (D 57), (D 58), x1, x64, x64, (D_1 0), (D_1 1), x68, x68, (D_2 0), (D_2 1), x72, x72, (D_3 0), (D_3 1), (D_3 2), x77, (D_4 0), (D_4 1), (D_4 2), (D_4 3), (D_4 4), (D_4 5), (D_4 6), (D_4 7), (D_4 8), (D_4 9), undef, undef, undef]).toArray, []⟩ ∧ At w0 w h_4 ∧ ldisc_Disc_put_j2 R x0 x1 h_4) ?_ ?_
          · refine wp_if rfl H (fun H => ?_) (fun H => ?_)
            · refine lwp_list ?_
              refine ls_move (x := x0) (by kernel_rfl) (by kernel_rfl) ?_
              refine ls_move (x := x0) (by kernel_rfl) (by kernel_rfl) ?_
              refine ls_p (d := some 80) (by kernel_rfl) (by kernel_rfl) (p_nil (by kernel_rfl) H) (fun x80 H => ?_)
              refine ls_p (d := some 81) (by kernel_rfl) (by kernel_rfl) (p_off Try.underlying72 rfl (fun w => ⟨_, Try.sizeOf30 w⟩) rfl (by kernel_rfl) H) (fun x81 H => ?_)
              refine ls_y (d := some 82) (by kernel_rfl) (by kernel_rfl) HA_3 (y_ld Try.isAgg30 (by kernel_rfl) H) (fun x82 H => ?_)
              refine ls_move (x := x1) (by kernel_rfl) (by kernel_rfl) ?_
              refine ls_fr (b := ⟨([x0, x1, undef, undef, (D 0), (D 1), (D 2), (D 3), (D 4), (D 5), (D 6), (D 7), (D 8), (D 9), (D 10), (D 11), (D 12), (D 13), (D 14), (D 15), (D 16), (D 17), (D 18), (D 19), (D 20), (D 21), (D 22), (D 23), (D 24), (D 25), (D 26), (D 27), (D 28), (D 29), (D 30), (D 31), (D 32), (D 33), (D 34), (D 35), (D 36), (D 37), (D 38), (D 39), (D 40), (D 41), (D 42), (D 43), (D 44), (D 45)] ++ [(D 46), (D 47), (D 48), (D 49), (D 50), (D 51), (D 52), (D 53), (D 54), (D 55), (D 56), (D 57), (D 58), x1, x64, x64, (D_1 0), (D_1 1), x68, x68, (D_2 0), (D_2 1), x72, x72, (D_3 0), (D_3 1), (D_3 2), x77, x0, x0, x80, x81, x82, x1, undef, undef, undef, undef, undef, undef, undef]).toArray, []⟩) (by kernel_rfl) ?_
              refine ls_d (d := some 84) (by kernel_rfl) (by kernel_rfl) HA_3 (d_slit (zc := #[.int .u8 0]) Try.underlying30 Try.sizeOf5 (by decide) (.inr ⟨by decide, _, Try.zeroValue5, (by kernel_rfl)⟩) (by kernel_rfl) (by kernel_rfl) H) (fun x84 h_6 w_6 H HA_6 => ?_)
              refine ls_d (d := some 85) (by kernel_rfl) (by kernel_rfl) HA_6 (d_app (z := #[.int .u8 0]) Try.underlying30 Try.underlying30 (.inl ⟨_, rfl⟩) Try.typeInfo5 (by kernel_rfl) Try.sizeOf5 Try.zeroValue5 (by kernel_rfl) (by kernel_rfl) (by kernel_rfl) H) (fun x85 h_7 w_7 H HA_7 => ?_)
              refine ls_p (d := some 86) (by kernel_rfl) (by kernel_rfl) (p_nil (by kernel_rfl) H) (fun x86 H => ?_)
              refine ls_p (d := some 87) (by kernel_rfl) (by kernel_rfl) (p_off Try.underlying72 rfl (fun w => ⟨_, Try.sizeOf30 w⟩) rfl (by kernel_rfl) H) (fun x87 H => ?_)
              refine ls_d (d := none) (by kernel_rfl) (by kernel_rfl) HA_7 (d_st Try.sizeOf30 (by kernel_rfl) (by kernel_rfl) H) (fun _ h_8 w_8 H HA_8 => ?_)
              refine ls_nil ?_
              exact ⟨(fun i => ([x0, x0, x80, x81, x82, x1, x84, x85, x86, x87]).getD i undef), h_8, by kernel_rfl, HA_8, H⟩
            · refine wp_skip ?_
              exact ⟨(fun i => ([undef, undef, undef, undef, undef, undef, undef, undef, undef, undef]).getD i undef), h_3, by kernel_rfl, HA_3, H⟩
          · rintro _ w_4 ⟨D_4, h_4, rfl, HA_4, H⟩
            unfold ldisc_Disc_put_j2 at H
            refine then_normal ?_
            refine fr_eq (b := ⟨([x0, x1, undef, undef, (D 0), (D 1), (D 2), (D 3), (D 4), (D 5), (D 6), (D 7), (D 8), (D 9), (D 10), (D 11), (D 12), (D 13), (D 14), (D 15), (D 16), (D 17), (D 18), (D 19), (D 20), (D 21), (D 22), (D 23), (D 24), (D 25), (D 26), (D 27), (D 28), (D 29), (D 30), (D 31), (D 32), (D 33), (D 34), (D 35), (D 36), (D 37), (D 38), (D 39), (D 40), (D 41), (D 42), (D 43), (D 44), (D 45)] ++ [(D 46), (D 47), (D 48), (D 49), (D 50), (D 51), (D 52), (D 53), (D 54), (D 55), (D 56), (D 57), (D 58), x1, x64, x64, (D_1 0), (D_1 1), x68, x68, (D_2 0), (D_2 1), x72, x72, (D_3 0), (D_3 1), (D_3 2), x77, (D_4 0), (D_4 1), (D_4 2), (D_4 3), (D_4 4), (D_4 5), (D_4 6), (D_4 7), (D_4 8), (D_4 9), undef, undef, undef]).toArray, []⟩) (by kernel_rfl) ?_
            refine wp_seq ?_
            refine lwp_list ?_
            refine ls_move (x := x0) (by kernel_rfl) (by kernel_rfl) ?_
            refine ls_move (x := x1) (by kernel_rfl) (by kernel_rfl) ?_
            refine ls_d (d := some 90) (by kernel_rfl) (by kernel_rfl) HA_4 (d_call (by kernel_rfl) (by kernel_rfl) H) (fun x90 h_5 w_5 H HA_5 => ?_)
            refine ls_nil ?_
            refine then_normal ?_
            refine fr_eq (b := ⟨([x0, x1, undef, undef, (D 0), (D 1), (D 2), (D 3), (D 4), (D 5), (D 6), (D 7), (D 8), (D 9), (D 10), (D 11), (D 12), (D 13), (D 14), (D 15), (D 16), (D 17), (D 18), (D 19), (D 20), (D 21), (D 22), (D 23), (D 24), (D 25), (D 26), (D 27), (D 28), (D 29), (D 30), (D 31), (D 32), (D 33), (D 34), (D 35), (D 36), (D 37), (D 38), (D 39), (D 40), (D 41), (D 42), (D 43), (D 44), (D 45)] ++ [(D 46), (D 47), (D 48), (D 49), (D 50), (D 51), (D 52), (D 53), (D 54), (D 55), (D 56), (D 57), (D 58), x1, x64, x64, (D_1 0), (D_1 1), x68, x68, (D_2 0), (D_2 1), x72, x72, (D_3 0), (D_3 1), (D_3 2), x77, (D_4 0), (D_4 1), (D_4 2), (D_4 3), (D_4 4), (D_4 5), (D_4 6), (D_4 7), (D_4 8), (D_4 9), x0, x1, x90]).toArray, []⟩) (by kernel_rfl) ?_
            refine wp_seq ?_
            refine lwp_list ?_
            refine ls_assign (x := (.bool true)) (by kernel_rfl) (by kernel_rfl) ?_
            refine ls_nil ?_
            refine then_normal ?_
            refine fr_eq (b := ⟨([x0, x1, undef, undef, (.bool true), (D 1), (D 2), (D 3), (D 4), (D 5), (D 6), (D 7), (D 8), (D 9), (D 10), (D 11), (D 12), (D 13), (D 14), (D 15), (D 16), (D 17), (D 18), (D 19), (D 20), (D 21), (D 22), (D 23), (D 24), (D 25), (D 26), (D 27), (D 28), (D 29), (D 30), (D 31), (D 32), (D 33), (D 34), (D 35), (D 36), (D 37), (D 38), (D 39), (D 40), (D 41), (D 42), (D 43), (D 44), (D 45)] ++ [(D 46), (D 47), (D 48), (D 49), (D 50), (D 51), (D 52), (D 53), (D 54), (D 55), (D 56), (D 57), (D 58), x1, x64, x64, (D_1 0), (D_1 1), x68, x68, (D_2 0), (D_2 1), x72, x72, (D_3 0), (D_3 1), (D_3 2), x77, (D_4 0), (D_4 1), (D_4 2), (D_4 3), (D_4 4), (D_4 5), (D_4 6), (D_4 7), (D_4 8), (D_4 9), x0, x1, x90]).toArray, []⟩) (by kernel_rfl) ?_
            refine wp_ret ?_
            exact end1 (Try.results62) (by kernel_rfl) (by kernel_rfl) HA_5 H _ (.inr rfl)

end Go.Proofs.Ytlcklnbgknhhkaa
