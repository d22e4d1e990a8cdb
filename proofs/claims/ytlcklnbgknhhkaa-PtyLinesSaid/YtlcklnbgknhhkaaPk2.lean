/- Texts in one. -/
import Derived.Test.YtlcklnbgknhhkaaFnC
import Derived.Test.YtlcklnbgknhhkaaPk1
section
/- The shallow reading of one function, and that the function does it. Written by a program. -/
set_option linter.unusedVariables false
namespace Go.Proofs.Ytlcklnbgknhhkaa
open Go Go.HW

def ldisc_Disc_put_j2 (R : Value → Heap → Prop) (x0 x1 : Value) (h_4 : Heap) : Prop :=
  ldisc_Disc_show_c x0 x1 h_4 fun x90 h_5 => 
  R (.bool true) h_5
def ldisc_Disc_put_j1 (R : Value → Heap → Prop) (x0 x1 : Value) (h : Heap) : Prop :=
  sEq x1 (.int .u8 10) fun x64 =>
  sAndH x64 h (fun k_2 =>
  ldisc_Disc_local_c x0 (.int .i64 1) h fun x67 h_11 => 
  k_2 x67 h_11) fun x68 h_1 =>
  sAndH x68 h_1 (fun k_1 =>
  ldisc_Disc_local_c x0 (.int .i64 16) h_1 fun x71 h_10 => 
  k_1 x71 h_10) fun x72 h_2 =>
  sAndH x72 h_2 (fun k =>
  ldisc_Disc_local_c x0 (.int .i64 2) h_2 fun x75 h_9 => 
  sNot x75 fun x76 =>
  k x76 h_9) fun x77 h_3 =>
  sIf x77 (sNil x0 fun x80 =>
  sOff x80 22 fun x81 =>
  sLd h_3 x81 fun x82 =>
  sSlit h_3 #[.int .u8 0] [(0, 1, x1)] 5 1 fun x84 h_6 => 
  sApp h_6 x82 x84 #[.int .u8 0] 5 1 fun x85 h_7 => 
  sNil x0 fun x86 =>
  sOff x86 22 fun x87 =>
  sSt h_7 x87 x85 fun h_8 => 
  ldisc_Disc_put_j2 R x0 x1 h_8) (ldisc_Disc_put_j2 R x0 x1 h_3)
def ldisc_Disc_put_S (x0 x1 : Value) (h : Heap) (R : Value → Heap → Prop) : Prop :=
  ldisc_Disc_local_c x0 (.int .i64 1) h fun x9 h_12 => 
  sNot x9 fun x10 =>
  sAnd x10 (fun k_6 =>
  sNil x0 fun x13 =>
  sOff x13 19 fun x14 =>
  sLd h_12 x14 fun x15 =>
  sLen x15 fun x16 =>
  sLt x16 (.int .i64 1024) fun x17 =>
  k_6 x17) fun x18 =>
  sIf x18 (sNil x0 fun x21 =>
  sOff x21 19 fun x22 =>
  sLd h_12 x22 fun x23 =>
  sSlit h_12 #[.int .u8 0] [(0, 1, x1)] 5 1 fun x25 h_13 => 
  sApp h_13 x23 x25 #[.int .u8 0] 5 1 fun x26 h_14 => 
  sNil x0 fun x27 =>
  sOff x27 19 fun x28 =>
  sSt h_14 x28 x26 fun h_15 => 
  ldisc_Disc_put_j1 R x0 x1 h_15) (ldisc_Disc_local_c x0 (.int .i64 1) h_12 fun x31 h_16 => 
  sAndH x31 h_16 (fun k_3 =>
  sNil x0 fun x34 =>
  sOff x34 17 fun x35 =>
  sLd h_16 x35 fun x36 =>
  sLen x36 fun x37 =>
  sLt x37 (.int .i64 254) fun x38 =>
  sOrH x38 h_16 (fun k_4 =>
  ldisc_Disc_ends_c x0 x1 h_16 fun x42 h_23 => 
  sAnd x42 (fun k_5 =>
  sNil x0 fun x45 =>
  sOff x45 17 fun x46 =>
  sLd h_23 x46 fun x47 =>
  sLen x47 fun x48 =>
  sLt x48 (.int .i64 255) fun x49 =>
  k_5 x49) fun x50 =>
  k_4 x50 h_23) fun x51 h_22 =>
  k_3 x51 h_22) fun x52 h_17 =>
  sIf x52 (sNil x0 fun x55 =>
  sOff x55 17 fun x56 =>
  sLd h_17 x56 fun x57 =>
  sSlit h_17 #[.int .u8 0] [(0, 1, x1)] 5 1 fun x59 h_18 => 
  sApp h_18 x57 x59 #[.int .u8 0] 5 1 fun x60 h_19 => 
  sNil x0 fun x61 =>
  sOff x61 17 fun x62 =>
  sSt h_19 x62 x60 fun h_20 => 
  ldisc_Disc_put_j1 R x0 x1 h_20) (ldisc_Disc_bell_c x0 h_17 fun x6 h_21 => 
  R (.bool false) h_21))
set_option maxRecDepth 100000 in
theorem ldisc_Disc_put_runs {x0 x1 : Value} {h : Heap} {R : Value → Heap → Prop} (H : ldisc_Disc_put_S x0 x1 h R) : ldisc_Disc_put_c x0 x1 h R := by
  unfold ldisc_Disc_put_S at H
  refine runs_of (b := ⟨([x0, x1, undef, undef, undef, undef, undef, undef, undef, undef, undef, undef, undef, undef, undef, undef, undef, undef, undef, undef, undef, undef, undef, undef, undef, undef, undef, undef, undef, undef, undef, undef, undef, undef, undef, undef, undef, undef, undef, undef, undef, undef, undef, undef, undef, undef, undef, undef, undef, undef] ++ [undef, undef, undef, undef, undef, undef, undef, undef, undef, undef, undef, undef, undef, undef, undef, undef, undef, undef, undef, undef, undef, undef, undef, undef, undef, undef, undef, undef, undef, undef, undef, undef, undef, undef, undef, undef, undef, undef, undef, undef, undef]).toArray, []⟩) Try.call62 Try.func62 rfl (by kernel_rfl) (fun w0 HA => ?_)
  refine wp_seq ?_
  refine lwp_list ?_
  refine ls_assign (x := (.bool false)) (by kernel_rfl) (by kernel_rfl) ?_
  refine ls_nil ?_
  refine then_normal ?_
  refine fr_eq (b := ⟨([x0, x1, undef, undef, (.bool false), undef, undef, undef, undef, undef, undef, undef, undef, undef, undef, undef, undef, undef, undef, undef, undef, undef, undef, undef, undef, undef, undef, undef, undef, undef, undef, undef, undef, undef, undef, undef, undef, undef, undef, undef, undef, undef, undef, undef, undef, undef, undef, undef, undef, undef] ++ [undef, undef, undef, undef, undef, undef, undef, undef, undef, undef, undef, undef, undef, undef, undef, undef, undef, undef, undef, undef, undef, undef, undef, undef, undef, undef, undef, undef, undef, undef, undef, undef, undef, undef, undef, undef, undef, undef, undef, undef, undef]).toArray, []⟩) (by kernel_rfl) ?_
  refine wp_seq ?_
  refine wp_join (fun a w => ∃ (D : Nat → Value) (h : Heap), a = ⟨([x0, x1, undef, undef, (D 0), (D 1), (D 2), (D 3), (D 4), (D 5), (D 6), (D 7), (D 8), (D 9), (D 10), (D 11), (D 12), (D 13), (D 14), (D 15), (D 16), (D 17), (D 18), (D 19), (D 20), (D 21), (D 22), (D 23), (D 24), (D 25), (D 26), (D 27), (D 28), (D 29), (D 30), (D 31), (D 32), (D 33), (D 34), (D 35), (D 36), (D 37), (D 38), (D 39), (D 40), (D 41), (D 42), (D 43), (D 44), (D 45)] ++ [(D 46), (D 47), (D 48), (D 49), (D 50), (D 51), (D 52), (D 53), (D 54), (D 55), (D 56), (D 57), (D 58), undef, undef, undef, undef, undef, undef, undef, undef, undef, undef, undef, undef, undef, undef, undef, undef, undef, undef, undef, undef, undef, undef, undef, undef, undef, undef, undef, undef]).toArray, []⟩ ∧ At w0 w h ∧ ldisc_Disc_put_j1 R x0 x1 h) ?_ ?_
  · refine wp_block ?_
    refine wp_seq ?_
    refine lwp_list ?_
    refine ls_move (x := x0) (by kernel_rfl) (by kernel_rfl) ?_
    refine ls_d (d := some 9) (by kernel_rfl) (by kernel_rfl) HA (d_call (by kernel_rfl) (by kernel_rfl) H) (fun x9 h_12 w_12 H HA_12 => ?_)
    refine ls_p (d := some 10) (by kernel_rfl) (by kernel_rfl) (p_not (by kernel_rfl) H) (fun x10 H => ?_)
    refine ls_move (x := x10) (by kernel_rfl) (by kernel_rfl) ?_
    refine ls_and [(), (), (), (), (), (), ()] (fun K a w => ∃ (D_5 : Nat → Value) (x18 : Value), a = ⟨([x0, x1, undef, undef, (.bool false), undef, undef, undef, x0, x9, x10, x10, (D_5 0), (D_5 1), (D_5 2), (D_5 3), (D_5 4), (D_5 5), x18, undef, undef, undef, undef, undef, undef, undef, undef, undef, undef, undef, undef, undef, undef, undef, undef, undef, undef, undef, undef, undef, undef, undef, undef, undef, undef, undef, undef, undef, undef, undef] ++ [undef, undef, undef, undef, undef, undef, undef, undef, undef, undef, undef, undef, undef, undef, undef, undef, undef, undef, undef, undef, undef, undef, undef, undef, undef, undef, undef, undef, undef, undef, undef, undef, undef, undef, undef, undef, undef, undef, undef, undef, undef]).toArray, []⟩ ∧ At w0 w h_12 ∧ K x18) H (fun hb_6 H => ?_) (fun hb_6 H => ?_) ?_
    · refine ls_move (x := x0) (by rw [hb_6]; kernel_rfl) (by kernel_rfl) ?_
      refine ls_p (d := some 13) (by kernel_rfl) (by rw [hb_6]; kernel_rfl) (p_nil (by kernel_rfl) H) (fun x13 H => ?_)
      refine ls_fr (b := ⟨([x0, x1, undef, undef, (.bool false), undef, undef, undef, x0, x9, x10, x10, x0, x13, undef, undef, undef, undef, undef, undef, undef, undef, undef, undef, undef, undef, undef, undef, undef, undef, undef, undef, undef, undef, undef, undef, undef, undef, undef, undef, undef, undef, undef, undef, undef, undef, undef, undef, undef, undef] ++ [undef, undef, undef, undef, undef, undef, undef, undef, undef, undef, undef, undef, undef, undef, undef, undef, undef, undef, undef, undef, undef, undef, undef, undef, undef, undef, undef, undef, undef, undef, undef, undef, undef, undef, undef, undef, undef, undef, undef, undef, undef]).toArray, []⟩) (by kernel_rfl) ?_
      refine ls_p (d := some 14) (by kernel_rfl) (by rw [hb_6]; kernel_rfl) (p_off Try.underlying72 rfl (fun w => ⟨_, Try.sizeOf30 w⟩) rfl (by kernel_rfl) H) (fun x14 H => ?_)
      refine ls_y (d := some 15) (by kernel_rfl) (by rw [hb_6]; kernel_rfl) HA_12 (y_ld Try.isAgg30 (by kernel_rfl) H) (fun x15 H => ?_)
      refine ls_p (d := some 16) (by kernel_rfl) (by rw [hb_6]; kernel_rfl) (p_len Try.underlying30 (by kernel_rfl) H) (fun x16 H => ?_)
      refine ls_p (d := some 17) (by kernel_rfl) (by rw [hb_6]; kernel_rfl) (p_sLt (by kernel_rfl) (by kernel_rfl) H) (fun x17 H => ?_)
      refine ls_pick_t (x := x17) (by kernel_rfl) (by rw [hb_6]; kernel_rfl) (by kernel_rfl) ?_
      refine ls_nil ?_
      refine then_normal ?_
      exact ⟨(fun i => ([x0, x13, x14, x15, x16, x17]).getD i undef), x17, by kernel_rfl, HA_12, H⟩
    · refine ls_skip (d := some 12) (by kernel_rfl) (by rw [hb_6]; kernel_rfl) ?_
      refine ls_skip (d := some 13) (by kernel_rfl) (by rw [hb_6]; kernel_rfl) ?_
      refine ls_fr (b := ⟨([x0, x1, undef, undef, (.bool false), undef, undef, undef, x0, x9, x10, x10, undef, undef, undef, undef, undef, undef, undef, undef, undef, undef, undef, undef, undef, undef, undef, undef, undef, undef, undef, undef, undef, undef, undef, undef, undef, undef, undef, undef, undef, undef, undef, undef, undef, undef, undef, undef, undef, undef] ++ [undef, undef, undef, undef, undef, undef, undef, undef, undef, undef, undef, undef, undef, undef, undef, undef, undef, undef, undef, undef, undef, undef, undef, undef, undef, undef, undef, undef, undef, undef, undef, undef, undef, undef, undef, undef, undef, undef, undef, undef, undef]).toArray, []⟩) (by kernel_rfl) ?_
      refine ls_skip (d := some 14) (by kernel_rfl) (by rw [hb_6]; kernel_rfl) ?_
      refine ls_skip (d := some 15) (by kernel_rfl) (by rw [hb_6]; kernel_rfl) ?_
      refine ls_skip (d := some 16) (by kernel_rfl) (by rw [hb_6]; kernel_rfl) ?_
      refine ls_skip (d := some 17) (by kernel_rfl) (by rw [hb_6]; kernel_rfl) ?_
      refine ls_pick_f (y := (.bool false)) (by kernel_rfl) (by rw [hb_6]; kernel_rfl) (by kernel_rfl) ?_
      refine ls_nil ?_
      refine then_normal ?_
      exact ⟨(fun i => ([undef, undef, undef, undef, undef, undef]).getD i undef), (.bool false), by kernel_rfl, HA_12, H⟩
    · rintro _ w_13 ⟨D_5, x18, rfl, HA_13, H⟩
      refine ls_assign (x := x18) (by kernel_rfl) (by kernel_rfl) ?_
      refine ls_nil ?_
      refine then_normal ?_
      refine fr_eq (b := ⟨([x0, x1, undef, undef, (.bool false), undef, undef, x18, x0, x9, x10, x10, (D_5 0), (D_5 1), (D_5 2), (D_5 3), (D_5 4), (D_5 5), x18, undef, undef, undef, undef, undef, undef, undef, undef, undef, undef, undef, undef, undef, undef, undef, undef, undef, undef, undef, undef, undef, undef, undef, undef, undef, undef, undef, undef, undef, undef, undef] ++ [undef, undef, undef, undef, undef, undef, undef, undef, undef, undef, undef, undef, undef, undef, undef, undef, undef, undef, undef, undef, undef, undef, undef, undef, undef, undef, undef, undef, undef, undef, undef, undef, undef, undef, undef, undef, undef, undef, undef, undef, undef]).toArray, []⟩) (by kernel_rfl) ?_
      refine wp_if rfl H (fun H => ?_) (fun H => ?_)
      · refine lwp_list ?_
        refine ls_move (x := x0) (by kernel_rfl) (by kernel_rfl) ?_
        refine ls_move (x := x0) (by kernel_rfl) (by kernel_rfl) ?_
        refine ls_p (d := some 21) (by kernel_rfl) (by kernel_rfl) (p_nil (by kernel_rfl) H) (fun x21 H => ?_)
        refine ls_p (d := some 22) (by kernel_rfl) (by kernel_rfl) (p_off Try.underlying72 rfl (fun w => ⟨_, Try.sizeOf30 w⟩) rfl (by kernel_rfl) H) (fun x22 H => ?_)
        refine ls_y (d := some 23) (by kernel_rfl) (by kernel_rfl) HA_13 (y_ld Try.isAgg30 (by kernel_rfl) H) (fun x23 H => ?_)
        refine ls_move (x := x1) (by kernel_rfl) (by kernel_rfl) ?_
        refine ls_fr (b := ⟨([x0, x1, undef, undef, (.bool false), undef, undef, x18, x0, x9, x10, x10, (D_5 0), (D_5 1), (D_5 2), (D_5 3), (D_5 4), (D_5 5), x18, x0, x0, x21, x22, x23, x1, undef, undef, undef, undef, undef, undef, undef, undef, undef, undef, undef, undef, undef, undef, undef, undef, undef, undef, undef, undef, undef, undef, undef, undef, undef] ++ [undef, undef, undef, undef, undef, undef, undef, undef, undef, undef, undef, undef, undef, undef, undef, undef, undef, undef, undef, undef, undef, undef, undef, undef, undef, undef, undef, undef, undef, undef, undef, undef, undef, undef, undef, undef, undef, undef, undef, undef, undef]).toArray, []⟩) (by kernel_rfl) ?_
        refine ls_d (d := some 25) (by kernel_rfl) (by kernel_rfl) HA_13 (d_slit (zc := #[.int .u8 0]) Try.underlying30 Try.sizeOf5 (by decide) (.inr ⟨by decide, _, Try.zeroValue5, (by kernel_rfl)⟩) (by kernel_rfl) (by kernel_rfl) H) (fun x25 h_13 w_14 H HA_14 => ?_)
        refine ls_d (d := some 26) (by kernel_rfl) (by kernel_rfl) HA_14 (d_app (z := #[.int .u8 0]) Try.underlying30 Try.underlying30 (.inl ⟨_, rfl⟩) Try.typeInfo5 (by kernel_rfl) Try.sizeOf5 Try.zeroValue5 (by kernel_rfl) (by kernel_rfl) (by kernel_rfl) H) (fun x26 h_14 w_15 H HA_15 => ?_)
        refine ls_p (d := some 27) (by kernel_rfl) (by kernel_rfl) (p_nil (by kernel_rfl) H) (fun x27 H => ?_)
        refine ls_p (d := some 28) (by kernel_rfl) (by kernel_rfl) (p_off Try.underlying72 rfl (fun w => ⟨_, Try.sizeOf30 w⟩) rfl (by kernel_rfl) H) (fun x28 H => ?_)
        refine ls_d (d := none) (by kernel_rfl) (by kernel_rfl) HA_15 (d_st Try.sizeOf30 (by kernel_rfl) (by kernel_rfl) H) (fun _ h_15 w_16 H HA_16 => ?_)
        refine ls_nil ?_
        refine block_normal ?_
        exact ⟨(fun i => ([(.bool false), undef, undef, x18, x0, x9, x10, x10, (D_5 0), (D_5 1), (D_5 2), (D_5 3), (D_5 4), (D_5 5), x18, x0, x0, x21, x22, x23, x1, x25, x26, x27, x28, undef, undef, undef, undef, undef, undef, undef, undef, undef, undef, undef, undef, undef, undef, undef, undef, undef, undef, undef, undef, undef, undef, undef, undef, undef] ++ [undef, undef, undef, undef, undef, undef, undef, undef, undef]).getD i undef), h_15, by kernel_rfl, HA_16, H⟩
      · refine wp_seq ?_
        refine lwp_list ?_
        refine ls_move (x := x0) (by kernel_rfl) (by kernel_rfl) ?_
        refine ls_d (d := some 31) (by kernel_rfl) (by kernel_rfl) HA_13 (d_call (by kernel_rfl) (by kernel_rfl) H) (fun x31 h_16 w_17 H HA_17 => ?_)
        refine ls_move (x := x31) (by kernel_rfl) (by kernel_rfl) ?_
        refine ls_andh [(), (), (), (), (), (), (), (), (), (), (), (), (), (), (), (), (), (), (), ()] (fun K a w => ∃ (D_6 : Nat → Value) (x52 : Value) (h_17 : Heap), a = ⟨([x0, x1, undef, undef, (.bool false), undef, undef, x18, x0, x9, x10, x10, (D_5 0), (D_5 1), (D_5 2), (D_5 3), (D_5 4), (D_5 5), x18, undef, undef, undef, undef, undef, undef, undef, undef, undef, undef, undef, x0, x31, x31, (D_6 0), (D_6 1), (D_6 2), (D_6 3), (D_6 4), (D_6 5), (D_6 6), (D_6 7), (D_6 8), (D_6 9), (D_6 10), (D_6 11), (D_6 12), (D_6 13), (D_6 14), (D_6 15), (D_6 16)] ++ [(D_6 17), (D_6 18), x52, undef, undef, undef, undef, undef, undef, undef, undef, undef, undef, undef, undef, undef, undef, undef, undef, undef, undef, undef, undef, undef, undef, undef, undef, undef, undef, undef, undef, undef, undef, undef, undef, undef, undef, undef, undef, undef, undef]).toArray, []⟩ ∧ At w0 w h_17 ∧ K x52 h_17) H (fun hb_3 H => ?_) (fun hb_3 H => ?_) ?_
        · refine ls_move (x := x0) (by rw [hb_3]; kernel_rfl) (by kernel_rfl) ?_
          refine ls_p (d := some 34) (by kernel_rfl) (by rw [hb_3]; kernel_rfl) (p_nil (by kernel_rfl) H) (fun x34 H => ?_)
          refine ls_p (d := some 35) (by kernel_rfl) (by rw [hb_3]; kernel_rfl) (p_off Try.underlying72 rfl (fun w => ⟨_, Try.sizeOf30 w⟩) rfl (by kernel_rfl) H) (fun x35 H => ?_)
          refine ls_fr (b := ⟨([x0, x1, undef, undef, (.bool false), undef, undef, x18, x0, x9, x10, x10, (D_5 0), (D_5 1), (D_5 2), (D_5 3), (D_5 4), (D_5 5), x18, undef, undef, undef, undef, undef, undef, undef, undef, undef, undef, undef, x0, x31, x31, x0, x34, x35, undef, undef, undef, undef, undef, undef, undef, undef, undef, undef, undef, undef, undef, undef] ++ [undef, undef, undef, undef, undef, undef, undef, undef, undef, undef, undef, undef, undef, undef, undef, undef, undef, undef, undef, undef, undef, undef, undef, undef, undef, undef, undef, undef, undef, undef, undef, undef, undef, undef, undef, undef, undef, undef, undef, undef, undef]).toArray, []⟩) (by kernel_rfl) ?_
          refine ls_y (d := some 36) (by kernel_rfl) (by rw [hb_3]; kernel_rfl) HA_17 (y_ld Try.isAgg30 (by kernel_rfl) H) (fun x36 H => ?_)
          refine ls_p (d := some 37) (by kernel_rfl) (by rw [hb_3]; kernel_rfl) (p_len Try.underlying30 (by kernel_rfl) H) (fun x37 H => ?_)
          refine ls_p (d := some 38) (by kernel_rfl) (by rw [hb_3]; kernel_rfl) (p_sLt (by kernel_rfl) (by kernel_rfl) H) (fun x38 H => ?_)
          refine ls_move (x := x38) (by rw [hb_3]; kernel_rfl) (by kernel_rfl) ?_
          refine ls_orh [(), (), (), (), (), (), (), (), (), (), (), ()] (fun K a w => ∃ (D_7 : Nat → Value) (x51 : Value) (h_22 : Heap), a = ⟨([x0, x1, undef, undef, (.bool false), undef, undef, x18, x0, x9, x10, x10, (D_5 0), (D_5 1), (D_5 2), (D_5 3), (D_5 4), (D_5 5), x18, undef, undef, undef, undef, undef, undef, undef, undef, undef, undef, undef, x0, x31, x31, x0, x34, x35, x36, x37, x38, x38, (D_7 0), (D_7 1), (D_7 2), (D_7 3), (D_7 4), (D_7 5), (D_7 6), (D_7 7), (D_7 8), (D_7 9)] ++ [(D_7 10), x51, undef, undef, undef, undef, undef, undef, undef, undef, undef, undef, undef, undef, undef, undef, undef, undef, undef, undef, undef, undef, undef, undef, undef, undef, undef, undef, undef, undef, undef, undef, undef, undef, undef, undef, undef, undef, undef, undef, undef]).toArray, []⟩ ∧ At w0 w h_22 ∧ K x51 h_22) H (fun hb_4 H => ?_) (fun hb_4 H => ?_) ?_
          · refine ls_move (x := x0) (by rw [hb_4]; kernel_rfl) (by kernel_rfl) ?_
            refine ls_move (x := x1) (by rw [hb_4]; kernel_rfl) (by kernel_rfl) ?_
            refine ls_fr (b := ⟨([x0, x1, undef, undef, (.bool false), undef, undef, x18, x0, x9, x10, x10, (D_5 0), (D_5 1), (D_5 2), (D_5 3), (D_5 4), (D_5 5), x18, undef, undef, undef, undef, undef, undef, undef, undef, undef, undef, undef, x0, x31, x31, x0, x34, x35, x36, x37, x38, x38, x0, x1, undef, undef, undef, undef, undef, undef, undef, undef] ++ [undef, undef, undef, undef, undef, undef, undef, undef, undef, undef, undef, undef, undef, undef, undef, undef, undef, undef, undef, undef, undef, undef, undef, undef, undef, undef, undef, undef, undef, undef, undef, undef, undef, undef, undef, undef, undef, undef, undef, undef, undef]).toArray, []⟩) (by kernel_rfl) ?_
            refine ls_d (d := some 42) (by kernel_rfl) (by rw [hb_4]; kernel_rfl) HA_17 (d_call (by kernel_rfl) (by kernel_rfl) H) (fun x42 h_23 w_24 H HA_24 => ?_)
            refine ls_move (x := x42) (by rw [hb_4]; kernel_rfl) (by kernel_rfl) ?_
            refine ls_and [(), (), (), (), (), (), ()] (fun K a w => ∃ (D_8 : Nat → Value) (x50 : Value), a = ⟨([x0, x1, undef, undef, (.bool false), undef, undef, x18, x0, x9, x10, x10, (D_5 0), (D_5 1), (D_5 2), (D_5 3), (D_5 4), (D_5 5), x18, undef, undef, undef, undef, undef, undef, undef, undef, undef, undef, undef, x0, x31, x31, x0, x34, x35, x36, x37, x38, x38, x0, x1, x42, x42, (D_8 0), (D_8 1), (D_8 2), (D_8 3), (D_8 4), (D_8 5)] ++ [x50, undef, undef, undef, undef, undef, undef, undef, undef, undef, undef, undef, undef, undef, undef, undef, undef, undef, undef, undef, undef, undef, undef, undef, undef, undef, undef, undef, undef, undef, undef, undef, undef, undef, undef, undef, undef, undef, undef, undef, undef]).toArray, []⟩ ∧ At w0 w h_23 ∧ K x50) H (fun hb_5 H => ?_) (fun hb_5 H => ?_) ?_
            · refine ls_move (x := x0) (by rw [hb_5]; kernel_rfl) (by kernel_rfl) ?_
              refine ls_p (d := some 45) (by kernel_rfl) (by rw [hb_5]; kernel_rfl) (p_nil (by kernel_rfl) H) (fun x45 H => ?_)
              refine ls_p (d := some 46) (by kernel_rfl) (by rw [hb_5]; kernel_rfl) (p_off Try.underlying72 rfl (fun w => ⟨_, Try.sizeOf30 w⟩) rfl (by kernel_rfl) H) (fun x46 H => ?_)
              refine ls_y (d := some 47) (by kernel_rfl) (by rw [hb_5]; kernel_rfl) HA_24 (y_ld Try.isAgg30 (by kernel_rfl) H) (fun x47 H => ?_)
              refine ls_fr (b := ⟨([x0, x1, undef, undef, (.bool false), undef, undef, x18, x0, x9, x10, x10, (D_5 0), (D_5 1), (D_5 2), (D_5 3), (D_5 4), (D_5 5), x18, undef, undef, undef, undef, undef, undef, undef, undef, undef, undef, undef, x0, x31, x31, x0, x34, x35, x36, x37, x38, x38, x0, x1, x42, x42, x0, x45, x46, x47, undef, undef] ++ [undef, undef, undef, undef, undef, undef, undef, undef, undef, undef, undef, undef, undef, undef, undef, undef, undef, undef, undef, undef, undef, undef, undef, undef, undef, undef, undef, undef, undef, undef, undef, undef, undef, undef, undef, undef, undef, undef, undef, undef, undef]).toArray, []⟩) (by kernel_rfl) ?_
              refine ls_p (d := some 48) (by kernel_rfl) (by rw [hb_5]; kernel_rfl) (p_len Try.underlying30 (by kernel_rfl) H) (fun x48 H => ?_)
              refine ls_p (d := some 49) (by kernel_rfl) (by rw [hb_5]; kernel_rfl) (p_sLt (by kernel_rfl) (by kernel_rfl) H) (fun x49 H => ?_)
              refine ls_pick_t (x := x49) (by rw [hb_4]; kernel_rfl) (by rw [hb_5]; kernel_rfl) (by kernel_rfl) ?_
              refine ls_nil ?_
              refine then_normal ?_
              exact ⟨(fun i => ([x0, x45, x46, x47, x48, x49]).getD i undef), x49, by kernel_rfl, HA_24, H⟩
            · refine ls_skip (d := some 44) (by kernel_rfl) (by rw [hb_5]; kernel_rfl) ?_
              refine ls_skip (d := some 45) (by kernel_rfl) (by rw [hb_5]; kernel_rfl) ?_
              refine ls_skip (d := some 46) (by kernel_rfl) (by rw [hb_5]; kernel_rfl) ?_
              refine ls_skip (d := some 47) (by kernel_rfl) (by rw [hb_5]; kernel_rfl) ?_
              refine ls_fr (b := ⟨([x0, x1, undef, undef, (.bool false), undef, undef, x18, x0, x9, x10, x10, (D_5 0), (D_5 1), (D_5 2), (D_5 3), (D_5 4), (D_5 5), x18, undef, undef, undef, undef, undef, undef, undef, undef, undef, undef, undef, x0, x31, x31, x0, x34, x35, x36, x37, x38, x38, x0, x1, x42, x42, undef, undef, undef, undef, undef, undef] ++ [undef, undef, undef, undef, undef, undef, undef, undef, undef, undef, undef, undef, undef, undef, undef, undef, undef, undef, undef, undef, undef, undef, undef, undef, undef, undef, undef, undef, undef, undef, undef, undef, undef, undef, undef, undef, undef, undef, undef, undef, undef]).toArray, []⟩) (by kernel_rfl) ?_
              refine ls_skip (d := some 48) (by kernel_rfl) (by rw [hb_5]; kernel_rfl) ?_
              refine ls_skip (d := some 49) (by kernel_rfl) (by rw [hb_5]; kernel_rfl) ?_
              refine ls_pick_f (y := (.bool false)) (by rw [hb_4]; kernel_rfl) (by rw [hb_5]; kernel_rfl) (by kernel_rfl) ?_
              refine ls_nil ?_
              refine then_normal ?_
              exact ⟨(fun i => ([undef, undef, undef, undef, undef, undef]).getD i undef), (.bool false), by kernel_rfl, HA_24, H⟩
            · rintro _ w_25 ⟨D_8, x50, rfl, HA_25, H⟩
              refine ls_pick_f (y := x50) (by rw [hb_3]; kernel_rfl) (by rw [hb_4]; kernel_rfl) (by kernel_rfl) ?_
              refine ls_nil ?_
              refine then_normal ?_
              exact ⟨(fun i => ([x0, x1, x42, x42, (D_8 0), (D_8 1), (D_8 2), (D_8 3), (D_8 4), (D_8 5), x50]).getD i undef), x50, h_23, by kernel_rfl, HA_25, H⟩
          · refine ls_skip (d := some 40) (by kernel_rfl) (by rw [hb_4]; kernel_rfl) ?_
            refine ls_skip (d := some 41) (by kernel_rfl) (by rw [hb_4]; kernel_rfl) ?_
            refine ls_fr (b := ⟨([x0, x1, undef, undef, (.bool false), undef, undef, x18, x0, x9, x10, x10, (D_5 0), (D_5 1), (D_5 2), (D_5 3), (D_5 4), (D_5 5), x18, undef, undef, undef, undef, undef, undef, undef, undef, undef, undef, undef, x0, x31, x31, x0, x34, x35, x36, x37, x38, x38, undef, undef, undef, undef, undef, undef, undef, undef, undef, undef] ++ [undef, undef, undef, undef, undef, undef, undef, undef, undef, undef, undef, undef, undef, undef, undef, undef, undef, undef, undef, undef, undef, undef, undef, undef, undef, undef, undef, undef, undef, undef, undef, undef, undef, undef, undef, undef, undef, undef, undef, undef, undef]).toArray, []⟩) (by kernel_rfl) ?_
            refine ls_skip (d := some 42) (by kernel_rfl) (by rw [hb_4]; kernel_rfl) ?_
            refine ls_skip (d := some 43) (by kernel_rfl) (by rw [hb_4]; kernel_rfl) ?_
            refine ls_skip (d := some 44) (by kernel_rfl) (by kernel_rfl) ?_
            refine ls_skip (d := some 45) (by kernel_rfl) (by kernel_rfl) ?_
            refine ls_skip (d := some 46) (by kernel_rfl) (by kernel_rfl) ?_
            refine ls_skip (d := some 47) (by kernel_rfl) (by kernel_rfl) ?_
            refine ls_fr (b := ⟨([x0, x1, undef, undef, (.bool false), undef, undef, x18, x0, x9, x10, x10, (D_5 0), (D_5 1), (D_5 2), (D_5 3), (D_5 4), (D_5 5), x18, undef, undef, undef, undef, undef, undef, undef, undef, undef, undef, undef, x0, x31, x31, x0, x34, x35, x36, x37, x38, x38, undef, undef, undef, undef, undef, undef, undef, undef, undef, undef] ++ [undef, undef, undef, undef, undef, undef, undef, undef, undef, undef, undef, undef, undef, undef, undef, undef, undef, undef, undef, undef, undef, undef, undef, undef, undef, undef, undef, undef, undef, undef, undef, undef, undef, undef, undef, undef, undef, undef, undef, undef, undef]).toArray, []⟩) (by kernel_rfl) ?_
            refine ls_skip (d := some 48) (by kernel_rfl) (by kernel_rfl) ?_
            refine ls_skip (d := some 49) (by kernel_rfl) (by kernel_rfl) ?_
            refine ls_skip (d := some 50) (by kernel_rfl) (by rw [hb_4]; kernel_rfl) ?_
            refine ls_pick_t (x := (.bool true)) (by rw [hb_3]; kernel_rfl) (by rw [hb_4]; kernel_rfl) (by kernel_rfl) ?_
            refine ls_nil ?_
            refine then_normal ?_
            exact ⟨(fun i => ([undef, undef, undef, undef, undef, undef, undef, undef, undef, undef, undef]).getD i undef), (.bool true), h_16, by kernel_rfl, HA_17, H⟩
          · rintro _ w_23 ⟨D_7, x51, h_22, rfl, HA_23, H⟩
            refine ls_pick_t (x := x51) (by kernel_rfl) (by rw [hb_3]; kernel_rfl) (by kernel_rfl) ?_
            refine ls_nil ?_
            refine then_normal ?_
            exact ⟨(fun i => ([x0, x34, x35, x36, x37, x38, x38, (D_7 0), (D_7 1), (D_7 2), (D_7 3), (D_7 4), (D_7 5), (D_7 6), (D_7 7), (D_7 8), (D_7 9), (D_7 10), x51]).getD i undef), x51, h_22, by kernel_rfl, HA_23, H⟩
        · refine ls_skip (d := some 33) (by kernel_rfl) (by rw [hb_3]; kernel_rfl) ?_
          refine ls_skip (d := some 34) (by kernel_rfl) (by rw [hb_3]; kernel_rfl) ?_
          refine ls_skip (d := some 35) (by kernel_rfl) (by rw [hb_3]; kernel_rfl) ?_
          refine ls_fr (b := ⟨([x0, x1, undef, undef, (.bool false), undef, undef, x18, x0, x9, x10, x10, (D_5 0), (D_5 1), (D_5 2), (D_5 3), (D_5 4), (D_5 5), x18, undef, undef, undef, undef, undef, undef, undef, undef, undef, undef, undef, x0, x31, x31, undef, undef, undef, undef, undef, undef, undef, undef, undef, undef, undef, undef, undef, undef, undef, undef, undef] ++ [undef, undef, undef, undef, undef, undef, undef, undef, undef, undef, undef, undef, undef, undef, undef, undef, undef, undef, undef, undef, undef, undef, undef, undef, undef, undef, undef, undef, undef, undef, undef, undef, undef, undef, undef, undef, undef, undef, undef, undef, undef]).toArray, []⟩) (by kernel_rfl) ?_
          refine ls_skip (d := some 36) (by kernel_rfl) (by rw [hb_3]; kernel_rfl) ?_
          refine ls_skip (d := some 37) (by kernel_rfl) (by rw [hb_3]; kernel_rfl) ?_
          refine ls_skip (d := some 38) (by kernel_rfl) (by rw [hb_3]; kernel_rfl) ?_
          refine ls_skip (d := some 39) (by kernel_rfl) (by rw [hb_3]; kernel_rfl) ?_
          refine ls_skip (d := some 40) (by kernel_rfl) (by kernel_rfl) ?_
          refine ls_skip (d := some 41) (by kernel_rfl) (by kernel_rfl) ?_
          refine ls_fr (b := ⟨([x0, x1, undef, undef, (.bool false), undef, undef, x18, x0, x9, x10, x10, (D_5 0), (D_5 1), (D_5 2), (D_5 3), (D_5 4), (D_5 5), x18, undef, undef, undef, undef, undef, undef, undef, undef, undef, undef, undef, x0, x31, x31, undef, undef, undef, undef, undef, undef, undef, undef, undef, undef, undef, undef, undef, undef, undef, undef, undef] ++ [undef, undef, undef, undef, undef, undef, undef, undef, undef, undef, undef, undef, undef, undef, undef, undef, undef, undef, undef, undef, undef, undef, undef, undef, undef, undef, undef, undef, undef, undef, undef, undef, undef, undef, undef, undef, undef, undef, undef, undef, undef]).toArray, []⟩) (by kernel_rfl) ?_
          refine ls_skip (d := some 42) (by kernel_rfl) (by kernel_rfl) ?_
          refine ls_skip (d := some 43) (by kernel_rfl) (by kernel_rfl) ?_
          refine ls_skip (d := some 44) (by kernel_rfl) (by kernel_rfl) ?_
          refine ls_skip (d := some 45) (by kernel_rfl) (by kernel_rfl) ?_
          refine ls_skip (d := some 46) (by kernel_rfl) (by kernel_rfl) ?_
          refine ls_skip (d := some 47) (by kernel_rfl) (by kernel_rfl) ?_
          refine ls_fr (b := ⟨([x0, x1, undef, undef, (.bool false), undef, undef, x18, x0, x9, x10, x10, (D_5 0), (D_5 1), (D_5 2), (D_5 3), (D_5 4), (D_5 5), x18, undef, undef, undef, undef, undef, undef, undef, undef, undef, undef, undef, x0, x31, x31, undef, undef, undef, undef, undef, undef, undef, undef, undef, undef, undef, undef, undef, undef, undef, undef, undef] ++ [undef, undef, undef, undef, undef, undef, undef, undef, undef, undef, undef, undef, undef, undef, undef, undef, undef, undef, undef, undef, undef, undef, undef, undef, undef, undef, undef, undef, undef, undef, undef, undef, undef, undef, undef, undef, undef, undef, undef, undef, undef]).toArray, []⟩) (by kernel_rfl) ?_
          refine ls_skip (d := some 48) (by kernel_rfl) (by kernel_rfl) ?_
          refine ls_skip (d := some 49) (by kernel_rfl) (by kernel_rfl) ?_
          refine ls_skip (d := some 50) (by kernel_rfl) (by kernel_rfl) ?_
          refine ls_skip (d := some 51) (by kernel_rfl) (by rw [hb_3]; kernel_rfl) ?_
          refine ls_pick_f (y := (.bool false)) (by kernel_rfl) (by rw [hb_3]; kernel_rfl) (by kernel_rfl) ?_
          refine ls_nil ?_
          refine then_normal ?_
          exact ⟨(fun i => ([undef, undef, undef, undef, undef, undef, undef, undef, undef, undef, undef, undef, undef, undef, undef, undef, undef, undef, undef]).getD i undef), (.bool false), h_16, by kernel_rfl, HA_17, H⟩
        · rintro _ w_18 ⟨D_6, x52, h_17, rfl, HA_18, H⟩
          refine ls_assign (x := x52) (by kernel_rfl) (by kernel_rfl) ?_
          refine ls_nil ?_
          refine then_normal ?_
          refine fr_eq (b := ⟨([x0, x1, undef, undef, (.bool false), undef, undef, x18, x0, x9, x10, x10, (D_5 0), (D_5 1), (D_5 2), (D_5 3), (D_5 4), (D_5 5), x18, undef, undef, undef, undef, undef, undef, undef, undef, undef, undef, x52, x0, x31, x31, (D_6 0), (D_6 1), (D_6 2), (D_6 3), (D_6 4), (D_6 5), (D_6 6), (D_6 7), (D_6 8), (D_6 9), (D_6 10), (D_6 11), (D_6 12), (D_6 13), (D_6 14), (D_6 15), (D_6 16)] ++ [(D_6 17), (D_6 18), x52, undef, undef, undef, undef, undef, undef, undef, undef, undef, undef, undef, undef, undef, undef, undef, undef, undef, undef, undef, undef, undef, undef, undef, undef, undef, undef, undef, undef, undef, undef, undef, undef, undef, undef, undef, undef, undef, undef]).toArray, []⟩) (by kernel_rfl) ?_
          refine wp_if rfl H (fun H => ?_) (fun H => ?_)
          · refine lwp_list ?_
            refine ls_move (x := x0) (by kernel_rfl) (by kernel_rfl) ?_
            refine ls_move (x := x0) (by kernel_rfl) (by kernel_rfl) ?_
            refine ls_p (d := some 55) (by kernel_rfl) (by kernel_rfl) (p_nil (by kernel_rfl) H) (fun x55 H => ?_)
            refine ls_p (d := some 56) (by kernel_rfl) (by kernel_rfl) (p_off Try.underlying72 rfl (fun w => ⟨_, Try.sizeOf30 w⟩) rfl (by kernel_rfl) H) (fun x56 H => ?_)
            refine ls_y (d := some 57) (by kernel_rfl) (by kernel_rfl) HA_18 (y_ld Try.isAgg30 (by kernel_rfl) H) (fun x57 H => ?_)
            refine ls_move (x := x1) (by kernel_rfl) (by kernel_rfl) ?_
            refine ls_fr (b := ⟨([x0, x1, undef, undef, (.bool false), undef, undef, x18, x0, x9, x10, x10, (D_5 0), (D_5 1), (D_5 2), (D_5 3), (D_5 4), (D_5 5), x18, undef, undef, undef, undef, undef, undef, undef, undef, undef, undef, x52, x0, x31, x31, (D_6 0), (D_6 1), (D_6 2), (D_6 3), (D_6 4), (D_6 5), (D_6 6), (D_6 7), (D_6 8), (D_6 9), (D_6 10), (D_6 11), (D_6 12), (D_6 13), (D_6 14), (D_6 15), (D_6 16)] ++ [(D_6 17), (D_6 18), x52, x0, x0, x55, x56, x57, x1, undef, undef, undef, undef, undef, undef, undef, undef, undef, undef, undef, undef, undef, undef, undef, undef, undef, undef, undef, undef, undef, undef, undef, undef, undef, undef, undef, undef, undef, undef, undef, undef]).toArray, []⟩) (by kernel_rfl) ?_
            refine ls_d (d := some 59) (by kernel_rfl) (by kernel_rfl) HA_18 (d_slit (zc := #[.int .u8 0]) Try.underlying30 Try.sizeOf5 (by decide) (.inr ⟨by decide, _, Try.zeroValue5, (by kernel_rfl)⟩) (by kernel_rfl) (by kernel_rfl) H) (fun x59 h_18 w_19 H HA_19 => ?_)
            refine ls_d (d := some 60) (by kernel_rfl) (by kernel_rfl) HA_19 (d_app (z := #[.int .u8 0]) Try.underlying30 Try.underlying30 (.inl ⟨_, rfl⟩) Try.typeInfo5 (by kernel_rfl) Try.sizeOf5 Try.zeroValue5 (by kernel_rfl) (by kernel_rfl) (by kernel_rfl) H) (fun x60 h_19 w_20 H HA_20 => ?_)
            refine ls_p (d := some 61) (by kernel_rfl) (by kernel_rfl) (p_nil (by kernel_rfl) H) (fun x61 H => ?_)
            refine ls_p (d := some 62) (by kernel_rfl) (by kernel_rfl) (p_off Try.underlying72 rfl (fun w => ⟨_, Try.sizeOf30 w⟩) rfl (by kernel_rfl) H) (fun x62 H => ?_)
            refine ls_d (d := none) (by kernel_rfl) (by kernel_rfl) HA_20 (d_st Try.sizeOf30 (by kernel_rfl) (by kernel_rfl) H) (fun _ h_20 w_21 H HA_21 => ?_)
            refine ls_nil ?_
            refine block_normal ?_
            exact ⟨(fun i => ([(.bool false), undef, undef, x18, x0, x9, x10, x10, (D_5 0), (D_5 1), (D_5 2), (D_5 3), (D_5 4), (D_5 5), x18, undef, undef, undef, undef, undef, undef, undef, undef, undef, undef, x52, x0, x31, x31, (D_6 0), (D_6 1), (D_6 2), (D_6 3), (D_6 4), (D_6 5), (D_6 6), (D_6 7), (D_6 8), (D_6 9), (D_6 10), (D_6 11), (D_6 12), (D_6 13), (D_6 14), (D_6 15), (D_6 16), (D_6 17), (D_6 18), x52, x0] ++ [x0, x55, x56, x57, x1, x59, x60, x61, x62]).getD i undef), h_20, by kernel_rfl, HA_21, H⟩
          · refine wp_seq ?_
            refine lwp_list ?_
            refine ls_move (x := x0) (by kernel_rfl) (by kernel_rfl) ?_
            refine ls_d (d := some 6) (by kernel_rfl) (by kernel_rfl) HA_18 (d_call (by kernel_rfl) (by kernel_rfl) H) (fun x6 h_21 w_22 H HA_22 => ?_)
            refine ls_nil ?_
            refine then_normal ?_
            refine fr_eq (b := ⟨([x0, x1, undef, undef, (.bool false), x0, x6, x18, x0, x9, x10, x10, (D_5 0), (D_5 1), (D_5 2), (D_5 3), (D_5 4), (D_5 5), x18, undef, undef, undef, undef, undef, undef, undef, undef, undef, undef, x52, x0, x31, x31, (D_6 0), (D_6 1), (D_6 2), (D_6 3), (D_6 4), (D_6 5), (D_6 6), (D_6 7), (D_6 8), (D_6 9), (D_6 10), (D_6 11), (D_6 12), (D_6 13), (D_6 14), (D_6 15), (D_6 16)] ++ [(D_6 17), (D_6 18), x52, undef, undef, undef, undef, undef, undef, undef, undef, undef, undef, undef, undef, undef, undef, undef, undef, undef, undef, undef, undef, undef, undef, undef, undef, undef, undef, undef, undef, undef, undef, undef, undef, undef, undef, undef, undef, undef, undef]).toArray, []⟩) (by kernel_rfl) ?_
            refine wp_seq ?_
            refine lwp_list ?_
            refine ls_assign (x := (.bool false)) (by kernel_rfl) (by kernel_rfl) ?_
            refine ls_nil ?_
            refine then_normal ?_
            refine fr_eq (b := ⟨([x0, x1, undef, undef, (.bool false), x0, x6, x18, x0, x9, x10, x10, (D_5 0), (D_5 1), (D_5 2), (D_5 3), (D_5 4), (D_5 5), x18, undef, undef, undef, undef, undef, undef, undef, undef, undef, undef, x52, x0, x31, x31, (D_6 0), (D_6 1), (D_6 2), (D_6 3), (D_6 4), (D_6 5), (D_6 6), (D_6 7), (D_6 8), (D_6 9), (D_6 10), (D_6 11), (D_6 12), (D_6 13), (D_6 14), (D_6 15), (D_6 16)] ++ [(D_6 17), (D_6 18), x52, undef, undef, undef, undef, undef, undef, undef, undef, undef, undef, undef, undef, undef, undef, undef, undef, undef, undef, undef, undef, undef, undef, undef, undef, undef, undef, undef, undef, undef, undef, undef, undef, undef, undef, undef, undef, undef, undef]).toArray, []⟩) (by kernel_rfl) ?_
            refine wp_ret ?_
            refine block_ret ?_
            refine then_ret ?_
            refine then_ret ?_
            exact end1 (Try.results62) (by kernel_rfl) (by kernel_rfl) HA_22 H _ (.inr rfl)
  · rintro _ w ⟨D, h, rfl, HA, H⟩
    unfold ldisc_Disc_put_j1 at H
    refine then_normal ?_
    refine fr_eq (b := ⟨([x0, x1, undef, undef, (D 0), (D 1), (D 2), (D 3), (D 4), (D 5), (D 6), (D 7), (D 8), (D 9), (D 10), (D 11), (D 12), (D 13), (D 14), (D 15), (D 16), (D 17), (D 18), (D 19), (D 20), (D 21), (D 22), (D 23), (D 24), (D 25), (D 26), (D 27), (D 28), (D 29), (D 30), (D 31), (D 32), (D 33), (D 34), (D 35), (D 36), (D 37), (D 38), (D 39), (D 40), (D 41), (D 42), (D 43), (D 44), (D 45)] ++ [(D 46), (D 47), (D 48), (D 49), (D 50), (D 51), (D 52), (D 53), (D 54), (D 55), (D 56), (D 57), (D 58), undef, undef, undef, undef, undef, undef, undef, undef, undef, undef, undef, undef, undef, undef, undef, undef, undef, undef, undef, undef, undef, undef, undef, undef, undef, undef, undef, undef]).toArray, []⟩) (by kernel_rfl) ?_
    refine wp_seq ?_
    refine wp_seq ?_
    refine lwp_list ?_
    refine ls_move (x := x1) (by kernel_rfl) (by kernel_rfl) ?_
    refine ls_p (d := some 64) (by kernel_rfl) (by kernel_rfl) (p_sEq (by kernel_rfl) (by kernel_rfl) H) (fun x64 H => ?_)
    refine ls_move (x := x64) (by kernel_rfl) (by kernel_rfl) ?_
    refine ls_andh [(), (), ()] (fun K a w => ∃ (D_1 : Nat → Value) (x68 : Value) (h_1 : Heap), a = ⟨([x0, x1, undef, undef, (D 0), (D 1), (D 2), (D 3), (D 4), (D 5), (D 6), (D 7), (D 8), (D 9), (D 10), (D 11), (D 12), (D 13), (D 14), (D 15), (D 16), (D 17), (D 18), (D 19), (D 20), (D 21), (D 22), (D 23), (D 24), (D 25), (D 26), (D 27), (D 28), (D 29), (D 30), (D 31), (D 32), (D 33), (D 34), (D 35), (D 36), (D 37), (D 38), (D 39), (D 40), (D 41), (D 42), (D 43), (D 44), (D 45)] ++ [(D 46), (D 47), (D 48), (D 49), (D 50), (D 51), (D 52), (D 53), (D 54), (D 55), (D 56), (D 57), (D 58), x1, x64, x64, (D_1 0), (D_1 1), x68, undef, undef, undef, undef, undef, undef, undef, undef, undef, undef, undef, undef, undef, undef, undef, undef, undef, undef, undef, undef, undef, undef]).toArray, []⟩ ∧ At w0 w h_1 ∧ K x68 h_1) H (fun hb_2 H => ?_) (fun hb_2 H => ?_) ?_
    · refine ls_move (x := x0) (by rw [hb_2]; kernel_rfl) (by kernel_rfl) ?_
      refine ls_d (d := some 67) (by kernel_rfl) (by rw [hb_2]; kernel_rfl) HA (d_call (by kernel_rfl) (by kernel_rfl) H) (fun x67 h_11 w_11 H HA_11 => ?_)
      refine ls_pick_t (x := x67) (by kernel_rfl) (by rw [hb_2]; kernel_rfl) (by kernel_rfl) ?_
      refine ls_nil ?_
      refine then_normal ?_
      exact ⟨(fun i => ([x0, x67]).getD i undef), x67, h_11, by kernel_rfl, HA_11, H⟩
    · refine ls_skip (d := some 66) (by kernel_rfl) (by rw [hb_2]; kernel_rfl) ?_
      refine ls_skip (d := some 67) (by kernel_rfl) (by rw [hb_2]; kernel_rfl) ?_
      refine ls_pick_f (y := (.bool false)) (by kernel_rfl) (by rw [hb_2]; kernel_rfl) (by kernel_rfl) ?_
      refine ls_nil ?_
      refine then_normal ?_
      exact ⟨(fun i => ([undef, undef]).getD i undef), (.bool false), h, by kernel_rfl, HA, H⟩
    · rintro _ w_1 ⟨D_1, x68, h_1, rfl, HA_1, H⟩
      refine ls_move (x := x68) (by kernel_rfl) (by kernel_rfl) ?_
      refine ls_andh [(), (), ()] (fun K a w => ∃ (D_2 : Nat → Value) (x72 : Value) (h_2 : Heap), a = ⟨([x0, x1, undef, undef, (D 0), (D 1), (D 2), (D 3), (D 4), (D 5), (D 6), (D 7), (D 8), (D 9), (D 10), (D 11), (D 12), (D 13), (D 14), (D 15), (D 16), (D 17), (D 18), (D 19), (D 20), (D 21), (D 22), (D 23), (D 24), (D 25), (D 26), (D 27), (D 28), (D 29), (D 30), (D 31), (D 32), (D 33), (D 34), (D 35), (D 36), (D 37), (D 38), (D 39), (D 40), (D 41), (D 42), (D 43), (D 44), (D 45)] ++ [(D 46), (D 47), (D 48), (D 49), (D 50), (D 51), (D 52), (D 53), (D 54), (D 55), (D 56), (D 57), (D 58), x1, x64, x64, (D_1 0), (D_1 1), x68, x68, (D_2 0), (D_2 1), x72, undef, undef, undef, undef, undef, undef, undef, undef, undef, undef, undef, undef, undef, undef, undef, undef, undef, undef]).toArray, []⟩ ∧ At w0 w h_2 ∧ K x72 h_2) H (fun hb_1 H => ?_) (fun hb_1 H => ?_) ?_
      · refine ls_move (x := x0) (by rw [hb_1]; kernel_rfl) (by kernel_rfl) ?_
        refine ls_d (d := some 71) (by kernel_rfl) (by rw [hb_1]; kernel_rfl) HA_1 (d_call (by kernel_rfl) (by kernel_rfl) H) (fun x71 h_10 w_10 H HA_10 => ?_)
        refine ls_pick_t (x := x71) (by kernel_rfl) (by rw [hb_1]; kernel_rfl) (by kernel_rfl) ?_
        refine ls_nil ?_
        refine then_normal ?_
        exact ⟨(fun i => ([x0, x71]).getD i undef), x71, h_10, by kernel_rfl, HA_10, H⟩
      · refine ls_skip (d := some 70) (by kernel_rfl) (by rw [hb_1]; kernel_rfl) ?_
        refine ls_skip (d := some 71) (by kernel_rfl) (by rw [hb_1]; kernel_rfl) ?_
        refine ls_pick_f (y := (.bool false)) (by kernel_rfl) (by rw [hb_1]; kernel_rfl) (by kernel_rfl) ?_
        refine ls_nil ?_
        refine then_normal ?_
        exact ⟨(fun i => ([undef, undef]).getD i undef), (.bool false), h_1, by kernel_rfl, HA_1, H⟩
      · rintro _ w_2 ⟨D_2, x72, h_2, rfl, HA_2, H⟩
        refine ls_move (x := x72) (by kernel_rfl) (by kernel_rfl) ?_
        refine ls_andh [(), (), (), ()] (fun K a w => ∃ (D_3 : Nat → Value) (x77 : Value) (h_3 : Heap), a = ⟨([x0, x1, undef, undef, (D 0), (D 1), (D 2), (D 3), (D 4), (D 5), (D 6), (D 7), (D 8), (D 9), (D 10), (D 11), (D 12), (D 13), (D 14), (D 15), (D 16), (D 17), (D 18), (D 19), (D 20), (D 21), (D 22), (D 23), (D 24), (D 25), (D 26), (D 27), (D 28), (D 29), (D 30), (D 31), (D 32), (D 33), (D 34), (D 35), (D 36), (D 37), (D 38), (D 39), (D 40), (D 41), (D 42), (D 43), (D 44), (D 45)] ++ [(D 46), (D 47), (D 48), (D 49), (D 50), (D 51), (D 52), (D 53), (D 54), (D 55), (D 56), (D 57), (D 58), x1, x64, x64, (D_1 0), (D_1 1), x68, x68, (D_2 0), (D_2 1), x72, x72, (D_3 0), (D_3 1), (D_3 2), x77, undef, undef, undef, undef, undef, undef, undef, undef, undef, undef, undef, undef, undef]).toArray, []⟩ ∧ At w0 w h_3 ∧ K x77 h_3) H (fun hb H => ?_) (fun hb H => ?_) ?_
        · refine ls_move (x := x0) (by rw [hb]; kernel_rfl) (by kernel_rfl) ?_
          refine ls_d (d := some 75) (by kernel_rfl) (by rw [hb]; kernel_rfl) HA_2 (d_call (by kernel_rfl) (by kernel_rfl) H) (fun x75 h_9 w_9 H HA_9 => ?_)
          refine ls_p (d := some 76) (by kernel_rfl) (by rw [hb]; kernel_rfl) (p_not (by kernel_rfl) H) (fun x76 H => ?_)
          refine ls_pick_t (x := x76) (by kernel_rfl) (by rw [hb]; kernel_rfl) (by kernel_rfl) ?_
          refine ls_nil ?_
          refine then_normal ?_
          exact ⟨(fun i => ([x0, x75, x76]).getD i undef), x76, h_9, by kernel_rfl, HA_9, H⟩
        · refine ls_skip (d := some 74) (by kernel_rfl) (by rw [hb]; kernel_rfl) ?_
          refine ls_skip (d := some 75) (by kernel_rfl) (by rw [hb]; kernel_rfl) ?_
          refine ls_skip (d := some 76) (by kernel_rfl) (by rw [hb]; kernel_rfl) ?_
          refine ls_pick_f (y := (.bool false)) (by kernel_rfl) (by rw [hb]; kernel_rfl) (by kernel_rfl) ?_
          refine ls_nil ?_
          refine then_normal ?_
          exact ⟨(fun i => ([undef, undef, undef]).getD i undef), (.bool false), h_2, by kernel_rfl, HA_2, H⟩
        · rintro _ w_3 ⟨D_3, x77, h_3, rfl, HA_3, H⟩
          refine ls_nil ?_
          refine then_normal ?_
          refine fr_eq (b := ⟨([x0, x1, undef, undef, (D 0), (D 1), (D 2), (D 3), (D 4), (D 5), (D 6), (D 7), (D 8), (D 9), (D 10), (D 11), (D 12), (D 13), (D 14), (D 15), (D 16), (D 17), (D 18), (D 19), (D 20), (D 21), (D 22), (D 23), (D 24), (D 25), (D 26), (D 27), (D 28), (D 29), (D 30), (D 31), (D 32), (D 33), (D 34), (D 35), (D 36), (D 37), (D 38), (D 39), (D 40), (D 41), (D 42), (D 43), (D 44), (D 45)] ++ [(D 46), (D 47), (D 48), (D 49), (D 50), (D 51), (D 52), (D 53), (D 54), (D 55), (D 56), (D 57), (D 58), x1, x64, x64, (D_1 0), (D_1 1), x68, x68, (D_2 0), (D_2 1), x72, x72, (D_3 0), (D_3 1), (D_3 2), x77, undef, undef, undef, undef, undef, undef, undef, undef, undef, undef, undef, undef, undef]).toArray, []⟩) (by kernel_rfl) ?_
          refine wp_join (fun a w => ∃ (D_4 : Nat → Value) (h_4 : Heap), a = ⟨([x0, x1, undef, undef, (D 0), (D 1), (D 2), (D 3), (D 4), (D 5), (D 6), (D 7), (D 8), (D 9), (D 10), (D 11), (D 12), (D 13), (D 14), (D 15), (D 16), (D 17), (D 18), (D 19), (D 20), (D 21), (D 22), (D 23), (D 24), (D 25), (D 26), (D 27), (D 28), (D 29), (D 30), (D 31), (D 32), (D 33), (D 34), (D 35), (D 36), (D 37), (D 38), (D 39), (D 40), (D 41), (D 42), (D 43), (D 44), (D 45)] ++ [(D 46), (D 47), (D 48), (D 49), (D 50), (D 51), (D 52), (D 53), (D 54), (D 55), (D 56), (D 57), (D 58), x1, x64, x64, (D_1 0), (D_1 1), x68, x68, (D_2 0), (D_2 1), x72, x72, (D_3 0), (D_3 1), (D_3 2), x77, (D_4 0), (D_4 1), (D_4 2), (D_4 3), (D_4 4), (D_4 5), (D_4 6), (D_4 7), (D_4 8), (D_4 9), undef, undef, undef]).toArray, []⟩ ∧ At w0 w h_4 ∧ ldisc_Disc_put_j2 R x0 x1 h_4) ?_ ?_
          · refine wp_if rfl H (fun H => ?_) (fun H => ?_)
            · refine lwp_list ?_
              refine ls_move (x := x0) (by kernel_rfl) (by kernel_rfl) ?_
              refine ls_move (x := x0) (by kernel_rfl) (by kernel_rfl) ?_
              refine ls_p (d := some 80) (by kernel_rfl) (by kernel_rfl) (p_nil (by kernel_rfl) H) (fun x80 H => ?_)
              refine ls_p (d := some 81) (by kernel_rfl) (by kernel_rfl) (p_off Try.underlying72 rfl (fun w => ⟨_, Try.sizeOf30 w⟩) rfl (by kernel_rfl) H) (fun x81 H => ?_)
              refine ls_y (d := some 82) (by kernel_rfl) (by kernel_rfl) HA_3 (y_ld Try.isAgg30 (by kernel_rfl) H) (fun x82 H => ?_)
              refine ls_move (x := x1) (by kernel_rfl) (by kernel_rfl) ?_
              refine ls_fr (b := ⟨([x0, x1, undef, undef, (D 0), (D 1), (D 2), (D 3), (D 4), (D 5), (D 6), (D 7), (D 8), (D 9), (D 10), (D 11), (D 12), (D 13), (D 14), (D 15), (D 16), (D 17), (D 18), (D 19), (D 20), (D 21), (D 22), (D 23), (D 24), (D 25), (D 26), (D 27), (D 28), (D 29), (D 30), (D 31), (D 32), (D 33), (D 34), (D 35), (D 36), (D 37), (D 38), (D 39), (D 40), (D 41), (D 42), (D 43), (D 44), (D 45)] ++ [(D 46), (D 47), (D 48), (D 49), (D 50), (D 51), (D 52), (D 53), (D 54), (D 55), (D 56), (D 57), (D 58), x1, x64, x64, (D_1 0), (D_1 1), x68, x68, (D_2 0), (D_2 1), x72, x72, (D_3 0), (D_3 1), (D_3 2), x77, x0, x0, x80, x81, x82, x1, undef, undef, undef, undef, undef, undef, undef]).toArray, []⟩) (by kernel_rfl) ?_
              refine ls_d (d := some 84) (by kernel_rfl) (by kernel_rfl) HA_3 (d_slit (zc := #[.int .u8 0]) Try.underlying30 Try.sizeOf5 (by decide) (.inr ⟨by decide, _, Try.zeroValue5, (by kernel_rfl)⟩) (by kernel_rfl) (by kernel_rfl) H) (fun x84 h_6 w_6 H HA_6 => ?_)
              refine ls_d (d := some 85) (by kernel_rfl) (by kernel_rfl) HA_6 (d_app (z := #[.int .u8 0]) Try.underlying30 Try.underlying30 (.inl ⟨_, rfl⟩) Try.typeInfo5 (by kernel_rfl) Try.sizeOf5 Try.zeroValue5 (by kernel_rfl) (by kernel_rfl) (by kernel_rfl) H) (fun x85 h_7 w_7 H HA_7 => ?_)
              refine ls_p (d := some 86) (by kernel_rfl) (by kernel_rfl) (p_nil (by kernel_rfl) H) (fun x86 H => ?_)
              refine ls_p (d := some 87) (by kernel_rfl) (by kernel_rfl) (p_off Try.underlying72 rfl (fun w => ⟨_, Try.sizeOf30 w⟩) rfl (by kernel_rfl) H) (fun x87 H => ?_)
              refine ls_d (d := none) (by kernel_rfl) (by kernel_rfl) HA_7 (d_st Try.sizeOf30 (by kernel_rfl) (by kernel_rfl) H) (fun _ h_8 w_8 H HA_8 => ?_)
              refine ls_nil ?_
              exact ⟨(fun i => ([x0, x0, x80, x81, x82, x1, x84, x85, x86, x87]).getD i undef), h_8, by kernel_rfl, HA_8, H⟩
            · refine wp_skip ?_
              exact ⟨(fun i => ([undef, undef, undef, undef, undef, undef, undef, undef, undef, undef]).getD i undef), h_3, by kernel_rfl, HA_3, H⟩
          · rintro _ w_4 ⟨D_4, h_4, rfl, HA_4, H⟩
            unfold ldisc_Disc_put_j2 at H
            refine then_normal ?_
            refine fr_eq (b := ⟨([x0, x1, undef, undef, (D 0), (D 1), (D 2), (D 3), (D 4), (D 5), (D 6), (D 7), (D 8), (D 9), (D 10), (D 11), (D 12), (D 13), (D 14), (D 15), (D 16), (D 17), (D 18), (D 19), (D 20), (D 21), (D 22), (D 23), (D 24), (D 25), (D 26), (D 27), (D 28), (D 29), (D 30), (D 31), (D 32), (D 33), (D 34), (D 35), (D 36), (D 37), (D 38), (D 39), (D 40), (D 41), (D 42), (D 43), (D 44), (D 45)] ++ [(D 46), (D 47), (D 48), (D 49), (D 50), (D 51), (D 52), (D 53), (D 54), (D 55), (D 56), (D 57), (D 58), x1, x64, x64, (D_1 0), (D_1 1), x68, x68, (D_2 0), (D_2 1), x72, x72, (D_3 0), (D_3 1), (D_3 2), x77, (D_4 0), (D_4 1), (D_4 2), (D_4 3), (D_4 4), (D_4 5), (D_4 6), (D_4 7), (D_4 8), (D_4 9), undef, undef, undef]).toArray, []⟩) (by kernel_rfl) ?_
            refine wp_seq ?_
            refine lwp_list ?_
            refine ls_move (x := x0) (by kernel_rfl) (by kernel_rfl) ?_
            refine ls_move (x := x1) (by kernel_rfl) (by kernel_rfl) ?_
            refine ls_d (d := some 90) (by kernel_rfl) (by kernel_rfl) HA_4 (d_call (by kernel_rfl) (by kernel_rfl) H) (fun x90 h_5 w_5 H HA_5 => ?_)
            refine ls_nil ?_
            refine then_normal ?_
            refine fr_eq (b := ⟨([x0, x1, undef, undef, (D 0), (D 1), (D 2), (D 3), (D 4), (D 5), (D 6), (D 7), (D 8), (D 9), (D 10), (D 11), (D 12), (D 13), (D 14), (D 15), (D 16), (D 17), (D 18), (D 19), (D 20), (D 21), (D 22), (D 23), (D 24), (D 25), (D 26), (D 27), (D 28), (D 29), (D 30), (D 31), (D 32), (D 33), (D 34), (D 35), (D 36), (D 37), (D 38), (D 39), (D 40), (D 41), (D 42), (D 43), (D 44), (D 45)] ++ [(D 46), (D 47), (D 48), (D 49), (D 50), (D 51), (D 52), (D 53), (D 54), (D 55), (D 56), (D 57), (D 58), x1, x64, x64, (D_1 0), (D_1 1), x68, x68, (D_2 0), (D_2 1), x72, x72, (D_3 0), (D_3 1), (D_3 2), x77, (D_4 0), (D_4 1), (D_4 2), (D_4 3), (D_4 4), (D_4 5), (D_4 6), (D_4 7), (D_4 8), (D_4 9), x0, x1, x90]).toArray, []⟩) (by kernel_rfl) ?_
            refine wp_seq ?_
            refine lwp_list ?_
            refine ls_assign (x := (.bool true)) (by kernel_rfl) (by kernel_rfl) ?_
            refine ls_nil ?_
            refine then_normal ?_
            refine fr_eq (b := ⟨([x0, x1, undef, undef, (.bool true), (D 1), (D 2), (D 3), (D 4), (D 5), (D 6), (D 7), (D 8), (D 9), (D 10), (D 11), (D 12), (D 13), (D 14), (D 15), (D 16), (D 17), (D 18), (D 19), (D 20), (D 21), (D 22), (D 23), (D 24), (D 25), (D 26), (D 27), (D 28), (D 29), (D 30), (D 31), (D 32), (D 33), (D 34), (D 35), (D 36), (D 37), (D 38), (D 39), (D 40), (D 41), (D 42), (D 43), (D 44), (D 45)] ++ [(D 46), (D 47), (D 48), (D 49), (D 50), (D 51), (D 52), (D 53), (D 54), (D 55), (D 56), (D 57), (D 58), x1, x64, x64, (D_1 0), (D_1 1), x68, x68, (D_2 0), (D_2 1), x72, x72, (D_3 0), (D_3 1), (D_3 2), x77, (D_4 0), (D_4 1), (D_4 2), (D_4 3), (D_4 4), (D_4 5), (D_4 6), (D_4 7), (D_4 8), (D_4 9), x0, x1, x90]).toArray, []⟩) (by kernel_rfl) ?_
            refine wp_ret ?_
            exact end1 (Try.results62) (by kernel_rfl) (by kernel_rfl) HA_5 H _ (.inr rfl)

end Go.Proofs.Ytlcklnbgknhhkaa

end

section
/- The shallow reading of one function, and that the function does it. Written by a program. -/
set_option linter.unusedVariables false
namespace Go.Proofs.Ytlcklnbgknhhkaa
open Go Go.HW

def ldisc_Disc_back_l1 (R : Value → Heap → Prop) (x0 x38 : Value) (next : Value → Heap → Prop) (x39 : Value) (h_4 : Heap) : Prop :=
  sLt x39 x38 fun x40 =>
  sIf x40 (sNil x0 fun x43 =>
  sOff x43 22 fun x44 =>
  sLd h_4 x44 fun x45 =>
  sSlit h_4 #[.int .u8 0, .int .u8 0, .int .u8 0] [(0, 1, (.int .u8 8)), (1, 1, (.int .u8 32)), (2, 1, (.int .u8 8))] 5 3 fun x46 h_5 => 
  sApp h_5 x45 x46 #[.int .u8 0] 5 1 fun x47 h_6 => 
  sNil x0 fun x48 =>
  sOff x48 22 fun x49 =>
  sSt h_6 x49 x47 fun h_7 => 
  sAdd .i64 x39 (.int .i64 1) fun x50 =>
  next x50 h_7) (R unit h_4)
def ldisc_Disc_back_S (x0 : Value) (h : Heap) (R : Value → Heap → Prop) : Prop :=
  sNil x0 fun x5 =>
  sOff x5 17 fun x6 =>
  sLd h x6 fun x7 =>
  sLen x7 fun x8 =>
  sNil x0 fun x10 =>
  sOff x10 17 fun x11 =>
  sLd h x11 fun x12 =>
  sSub .i64 x8 (.int .i64 1) fun x14 =>
  sIxS x12 x14 1 fun x15 =>
  sLd h x15 fun x16 =>
  sNil x0 fun x19 =>
  sOff x19 17 fun x20 =>
  sLd h x20 fun x21 =>
  sSub .i64 x8 (.int .i64 1) fun x23 =>
  sSl x21 none (some x23) 1 fun x24 =>
  sNil x0 fun x25 =>
  sOff x25 17 fun x26 =>
  sSt h x26 x24 fun h => 
  ldisc_Disc_local_c x0 (.int .i64 2) h fun x28 h_1 => 
  sNot x28 fun x29 =>
  sOrH x29 h_1 (fun k =>
  ldisc_Disc_local_c x0 (.int .i64 4) h_1 fun x32 h_8 => 
  sNot x32 fun x33 =>
  k x33 h_8) fun x34 h_2 =>
  sIf x34 (R unit h_2) (ldisc_Disc_picture_c x0 x16 h_2 fun x37 h_3 => 
  sLen x37 fun x38 =>
  sLoop (S := Value) (fun nxt s h => ldisc_Disc_back_l1 R x0 x38 (fun x39' h => nxt x39' h) s h) (.int .i64 0) h_3)
set_option maxRecDepth 100000 in
theorem ldisc_Disc_back_runs {x0 : Value} {h : Heap} {R : Value → Heap → Prop} (H : ldisc_Disc_back_S x0 h R) : ldisc_Disc_back_c x0 h R := by
  unfold ldisc_Disc_back_S at H
  refine runs_of (b := ⟨#[x0, undef, undef, undef, undef, undef, undef, undef, undef, undef, undef, undef, undef, undef, undef, undef, undef, undef, undef, undef, undef, undef, undef, undef, undef, undef, undef, undef, undef, undef, undef, undef, undef, undef, undef, undef, undef, undef, undef, undef, undef, undef, undef, undef, undef, undef, undef, undef, undef, undef, undef], []⟩) Try.call80 Try.func80 rfl (by kernel_rfl) (fun w0 HA => ?_)
  refine wp_seq ?_
  refine lwp_list ?_
  refine ls_move (x := x0) (by kernel_rfl) (by kernel_rfl) ?_
  refine ls_p (d := some 5) (by kernel_rfl) (by kernel_rfl) (p_nil (by kernel_rfl) H) (fun x5 H => ?_)
  refine ls_p (d := some 6) (by kernel_rfl) (by kernel_rfl) (p_off Try.underlying72 rfl (fun w => ⟨_, Try.sizeOf30 w⟩) rfl (by kernel_rfl) H) (fun x6 H => ?_)
  refine ls_y (d := some 7) (by kernel_rfl) (by kernel_rfl) HA (y_ld Try.isAgg30 (by kernel_rfl) H) (fun x7 H => ?_)
  refine ls_p (d := some 8) (by kernel_rfl) (by kernel_rfl) (p_len Try.underlying30 (by kernel_rfl) H) (fun x8 H => ?_)
  refine ls_assign (x := x8) (by kernel_rfl) (by kernel_rfl) ?_
  refine ls_nil ?_
  refine then_normal ?_
  refine fr_eq (b := ⟨#[x0, undef, x8, undef, x0, x5, x6, x7, x8, undef, undef, undef, undef, undef, undef, undef, undef, undef, undef, undef, undef, undef, undef, undef, undef, undef, undef, undef, undef, undef, undef, undef, undef, undef, undef, undef, undef, undef, undef, undef, undef, undef, undef, undef, undef, undef, undef, undef, undef, undef, undef], []⟩) (by kernel_rfl) ?_
  refine wp_seq ?_
  refine lwp_list ?_
  refine ls_move (x := x0) (by kernel_rfl) (by kernel_rfl) ?_
  refine ls_p (d := some 10) (by kernel_rfl) (by kernel_rfl) (p_nil (by kernel_rfl) H) (fun x10 H => ?_)
  refine ls_p (d := some 11) (by kernel_rfl) (by kernel_rfl) (p_off Try.underlying72 rfl (fun w => ⟨_, Try.sizeOf30 w⟩) rfl (by kernel_rfl) H) (fun x11 H => ?_)
  refine ls_y (d := some 12) (by kernel_rfl) (by kernel_rfl) HA (y_ld Try.isAgg30 (by kernel_rfl) H) (fun x12 H => ?_)
  refine ls_move (x := x8) (by kernel_rfl) (by kernel_rfl) ?_
  refine ls_p (d := some 14) (by kernel_rfl) (by kernel_rfl) (p_sub (by kernel_rfl) (by kernel_rfl) H) (fun x14 H => ?_)
  refine ls_fr (b := ⟨#[x0, undef, x8, undef, x0, x5, x6, x7, x8, x0, x10, x11, x12, x8, x14, undef, undef, undef, undef, undef, undef, undef, undef, undef, undef, undef, undef, undef, undef, undef, undef, undef, undef, undef, undef, undef, undef, undef, undef, undef, undef, undef, undef, undef, undef, undef, undef, undef, undef, undef, undef], []⟩) (by kernel_rfl) ?_
  refine ls_p (d := some 15) (by kernel_rfl) (by kernel_rfl) (p_ixs Try.underlying30 Try.sizeOf5 (by kernel_rfl) (by kernel_rfl) H) (fun x15 H => ?_)
  refine ls_y (d := some 16) (by kernel_rfl) (by kernel_rfl) HA (y_ld Try.isAgg5 (by kernel_rfl) H) (fun x16 H => ?_)
  refine ls_assign (x := x16) (by kernel_rfl) (by kernel_rfl) ?_
  refine ls_nil ?_
  refine then_normal ?_
  refine fr_eq (b := ⟨#[x0, undef, x8, x16, x0, x5, x6, x7, x8, x0, x10, x11, x12, x8, x14, x15, x16, undef, undef, undef, undef, undef, undef, undef, undef, undef, undef, undef, undef, undef, undef, undef, undef, undef, undef, undef, undef, undef, undef, undef, undef, undef, undef, undef, undef, undef, undef, undef, undef, undef, undef], []⟩) (by kernel_rfl) ?_
  refine wp_seq ?_
  refine lwp_list ?_
  refine ls_move (x := x0) (by kernel_rfl) (by kernel_rfl) ?_
  refine ls_move (x := x0) (by kernel_rfl) (by kernel_rfl) ?_
  refine ls_p (d := some 19) (by kernel_rfl) (by kernel_rfl) (p_nil (by kernel_rfl) H) (fun x19 H => ?_)
  refine ls_p (d := some 20) (by kernel_rfl) (by kernel_rfl) (p_off Try.underlying72 rfl (fun w => ⟨_, Try.sizeOf30 w⟩) rfl (by kernel_rfl) H) (fun x20 H => ?_)
  refine ls_y (d := some 21) (by kernel_rfl) (by kernel_rfl) HA (y_ld Try.isAgg30 (by kernel_rfl) H) (fun x21 H => ?_)
  refine ls_move (x := x8) (by kernel_rfl) (by kernel_rfl) ?_
  refine ls_fr (b := ⟨#[x0, undef, x8, x16, x0, x5, x6, x7, x8, x0, x10, x11, x12, x8, x14, x15, x16, x0, x0, x19, x20, x21, x8, undef, undef, undef, undef, undef, undef, undef, undef, undef, undef, undef, undef, undef, undef, undef, undef, undef, undef, undef, undef, undef, undef, undef, undef, undef, undef, undef, undef], []⟩) (by kernel_rfl) ?_
  refine ls_p (d := some 23) (by kernel_rfl) (by kernel_rfl) (p_sub (by kernel_rfl) (by kernel_rfl) H) (fun x23 H => ?_)
  refine ls_p (d := some 24) (by kernel_rfl) (by kernel_rfl) (p_sl Try.underlying30 Try.sizeOf5 (by kernel_rfl) (by kernel_rfl) (by kernel_rfl) H) (fun x24 H => ?_)
  refine ls_p (d := some 25) (by kernel_rfl) (by kernel_rfl) (p_nil (by kernel_rfl) H) (fun x25 H => ?_)
  refine ls_p (d := some 26) (by kernel_rfl) (by kernel_rfl) (p_off Try.underlying72 rfl (fun w => ⟨_, Try.sizeOf30 w⟩) rfl (by kernel_rfl) H) (fun x26 H => ?_)
  refine ls_d (d := none) (by kernel_rfl) (by kernel_rfl) HA (d_st Try.sizeOf30 (by kernel_rfl) (by kernel_rfl) H) (fun _ h w H HA => ?_)
  refine ls_nil ?_
  refine then_normal ?_
  refine fr_eq (b := ⟨#[x0, undef, x8, x16, x0, x5, x6, x7, x8, x0, x10, x11, x12, x8, x14, x15, x16, x0, x0, x19, x20, x21, x8, x23, x24, x25, x26, undef, undef, undef, undef, undef, undef, undef, undef, undef, undef, undef, undef, undef, undef, undef, undef, undef, undef, undef, undef, undef, undef, undef, undef], []⟩) (by kernel_rfl) ?_
  refine wp_seq ?_
  refine wp_seq ?_
  refine lwp_list ?_
  refine ls_move (x := x0) (by kernel_rfl) (by kernel_rfl) ?_
  refine ls_d (d := some 28) (by kernel_rfl) (by kernel_rfl) HA (d_call (by kernel_rfl) (by kernel_rfl) H) (fun x28 h_1 w_1 H HA_1 => ?_)
  refine ls_p (d := some 29) (by kernel_rfl) (by kernel_rfl) (p_not (by kernel_rfl) H) (fun x29 H => ?_)
  refine ls_move (x := x29) (by kernel_rfl) (by kernel_rfl) ?_
  refine ls_orh [(), (), (), ()] (fun K a w => ∃ (D : Nat → Value) (x34 : Value) (h_2 : Heap), a = ⟨#[x0, undef, x8, x16, x0, x5, x6, x7, x8, x0, x10, x11, x12, x8, x14, x15, x16, x0, x0, x19, x20, x21, x8, x23, x24, x25, x26, x0, x28, x29, x29, (D 0), (D 1), (D 2), x34, undef, undef, undef, undef, undef, undef, undef, undef, undef, undef, undef, undef, undef, undef, undef, undef], []⟩ ∧ At w0 w h_2 ∧ K x34 h_2) H (fun hb H => ?_) (fun hb H => ?_) ?_
  · refine ls_move (x := x0) (by rw [hb]; kernel_rfl) (by kernel_rfl) ?_
    refine ls_d (d := some 32) (by kernel_rfl) (by rw [hb]; kernel_rfl) HA_1 (d_call (by kernel_rfl) (by kernel_rfl) H) (fun x32 h_8 w_8 H HA_8 => ?_)
    refine ls_fr (b := ⟨#[x0, undef, x8, x16, x0, x5, x6, x7, x8, x0, x10, x11, x12, x8, x14, x15, x16, x0, x0, x19, x20, x21, x8, x23, x24, x25, x26, x0, x28, x29, x29, x0, x32, undef, undef, undef, undef, undef, undef, undef, undef, undef, undef, undef, undef, undef, undef, undef, undef, undef, undef], []⟩) (by kernel_rfl) ?_
    refine ls_p (d := some 33) (by kernel_rfl) (by rw [hb]; kernel_rfl) (p_not (by kernel_rfl) H) (fun x33 H => ?_)
    refine ls_pick_f (y := x33) (by kernel_rfl) (by rw [hb]; kernel_rfl) (by kernel_rfl) ?_
    refine ls_nil ?_
    refine then_normal ?_
    exact ⟨(fun i => ([x0, x32, x33]).getD i undef), x33, h_8, by kernel_rfl, HA_8, H⟩
  · refine ls_skip (d := some 31) (by kernel_rfl) (by rw [hb]; kernel_rfl) ?_
    refine ls_skip (d := some 32) (by kernel_rfl) (by rw [hb]; kernel_rfl) ?_
    refine ls_fr (b := ⟨#[x0, undef, x8, x16, x0, x5, x6, x7, x8, x0, x10, x11, x12, x8, x14, x15, x16, x0, x0, x19, x20, x21, x8, x23, x24, x25, x26, x0, x28, x29, x29, undef, undef, undef, undef, undef, undef, undef, undef, undef, undef, undef, undef, undef, undef, undef, undef, undef, undef, undef, undef], []⟩) (by kernel_rfl) ?_
    refine ls_skip (d := some 33) (by kernel_rfl) (by rw [hb]; kernel_rfl) ?_
    refine ls_pick_t (x := (.bool true)) (by kernel_rfl) (by rw [hb]; kernel_rfl) (by kernel_rfl) ?_
    refine ls_nil ?_
    refine then_normal ?_
    exact ⟨(fun i => ([undef, undef, undef]).getD i undef), (.bool true), h_1, by kernel_rfl, HA_1, H⟩
  · rintro _ w_2 ⟨D, x34, h_2, rfl, HA_2, H⟩
    refine ls_nil ?_
    refine then_normal ?_
    refine fr_eq (b := ⟨#[x0, undef, x8, x16, x0, x5, x6, x7, x8, x0, x10, x11, x12, x8, x14, x15, x16, x0, x0, x19, x20, x21, x8, x23, x24, x25, x26, x0, x28, x29, x29, (D 0), (D 1), (D 2), x34, undef, undef, undef, undef, undef, undef, undef, undef, undef, undef, undef, undef, undef, undef, undef, undef], []⟩) (by kernel_rfl) ?_
    refine wp_if rfl H (fun H => ?_) (fun H => ?_)
    · refine wp_ret ?_
      refine then_ret ?_
      exact end0 (Try.results80) (by kernel_rfl) HA_2 H _ (.inr rfl)
    · refine wp_skip ?_
      refine then_normal ?_
      refine fr_eq (b := ⟨#[x0, undef, x8, x16, x0, x5, x6, x7, x8, x0, x10, x11, x12, x8, x14, x15, x16, x0, x0, x19, x20, x21, x8, x23, x24, x25, x26, x0, x28, x29, x29, (D 0), (D 1), (D 2), x34, undef, undef, undef, undef, undef, undef, undef, undef, undef, undef, undef, undef, undef, undef, undef, undef], []⟩) (by kernel_rfl) ?_
      refine wp_seq ?_
      refine lwp_list ?_
      refine ls_move (x := x0) (by kernel_rfl) (by kernel_rfl) ?_
      refine ls_move (x := x16) (by kernel_rfl) (by kernel_rfl) ?_
      refine ls_d (d := some 37) (by kernel_rfl) (by kernel_rfl) HA_2 (d_call (by kernel_rfl) (by kernel_rfl) H) (fun x37 h_3 w_3 H HA_3 => ?_)
      refine ls_p (d := some 38) (by kernel_rfl) (by kernel_rfl) (p_len Try.underlying30 (by kernel_rfl) H) (fun x38 H => ?_)
      refine ls_move (x := (.int .i64 0)) (by kernel_rfl) (by kernel_rfl) ?_
      refine ls_nil ?_
      refine then_normal ?_
      refine fr_eq (b := ⟨#[x0, undef, x8, x16, x0, x5, x6, x7, x8, x0, x10, x11, x12, x8, x14, x15, x16, x0, x0, x19, x20, x21, x8, x23, x24, x25, x26, x0, x28, x29, x29, (D 0), (D 1), (D 2), x34, x0, x16, x37, x38, (.int .i64 0), undef, undef, undef, undef, undef, undef, undef, undef, undef, undef, undef], []⟩) (by kernel_rfl) ?_
      refine wp_block ?_
      obtain ⟨I, m, H0, HB⟩ := H
      refine wp_loop (fun a w => ∃ (D_1 : Nat → Value) (x39 : Value) (h_4 : Heap), a = ⟨#[x0, undef, x8, x16, x0, x5, x6, x7, x8, x0, x10, x11, x12, x8, x14, x15, x16, x0, x0, x19, x20, x21, x8, x23, x24, x25, x26, x0, x28, x29, x29, (D 0), (D 1), (D 2), x34, x0, x16, x37, x38, x39, (D_1 0), (D_1 1), (D_1 2), (D_1 3), (D_1 4), (D_1 5), (D_1 6), (D_1 7), (D_1 8), (D_1 9), (D_1 10)], []⟩ ∧ At w0 w h_4 ∧ I x39 h_4) (fun a w => m (a.tmps.getD 39 undef) w.heap) ?_ ?_
      · exact ⟨(fun i => ([undef, undef, undef, undef, undef, undef, undef, undef, undef, undef, undef]).getD i undef), (.int .i64 0), h_3, by kernel_rfl, HA_3, H0⟩
      · rintro _ w_4 ⟨D_1, x39, h_4, rfl, HA_4, HI⟩
        have H : ldisc_Disc_back_l1 R x0 x38 (fun x39' h' => I x39' h' ∧ m x39' h' < m x39 h_4) x39 h_4 := HB x39 h_4 HI
        clear HB H0 HI
        unfold ldisc_Disc_back_l1 at H
        refine wp_seq ?_
        refine lwp_list ?_
        refine ls_p (d := some 40) (by kernel_rfl) (by kernel_rfl) (p_sLt (by kernel_rfl) (by kernel_rfl) H) (fun x40 H => ?_)
        refine ls_nil ?_
        refine then_normal ?_
        refine fr_eq (b := ⟨#[x0, undef, x8, x16, x0, x5, x6, x7, x8, x0, x10, x11, x12, x8, x14, x15, x16, x0, x0, x19, x20, x21, x8, x23, x24, x25, x26, x0, x28, x29, x29, (D 0), (D 1), (D 2), x34, x0, x16, x37, x38, x39, x40, (D_1 1), (D_1 2), (D_1 3), (D_1 4), (D_1 5), (D_1 6), (D_1 7), (D_1 8), (D_1 9), (D_1 10)], []⟩) (by kernel_rfl) ?_
        refine wp_seq ?_
        refine wp_if rfl H (fun H => ?_) (fun H => ?_)
        · refine wp_skip ?_
          refine then_normal ?_
          refine fr_eq (b := ⟨#[x0, undef, x8, x16, x0, x5, x6, x7, x8, x0, x10, x11, x12, x8, x14, x15, x16, x0, x0, x19, x20, x21, x8, x23, x24, x25, x26, x0, x28, x29, x29, (D 0), (D 1), (D 2), x34, x0, x16, x37, x38, x39, x40, (D_1 1), (D_1 2), (D_1 3), (D_1 4), (D_1 5), (D_1 6), (D_1 7), (D_1 8), (D_1 9), (D_1 10)], []⟩) (by kernel_rfl) ?_
          refine wp_seq ?_
          refine wp_block ?_
          refine lwp_list ?_
          refine ls_move (x := x0) (by kernel_rfl) (by kernel_rfl) ?_
          refine ls_move (x := x0) (by kernel_rfl) (by kernel_rfl) ?_
          refine ls_p (d := some 43) (by kernel_rfl) (by kernel_rfl) (p_nil (by kernel_rfl) H) (fun x43 H => ?_)
          refine ls_p (d := some 44) (by kernel_rfl) (by kernel_rfl) (p_off Try.underlying72 rfl (fun w => ⟨_, Try.sizeOf30 w⟩) rfl (by kernel_rfl) H) (fun x44 H => ?_)
          refine ls_y (d := some 45) (by kernel_rfl) (by kernel_rfl) HA_4 (y_ld Try.isAgg30 (by kernel_rfl) H) (fun x45 H => ?_)
          refine ls_d (d := some 46) (by kernel_rfl) (by kernel_rfl) HA_4 (d_slit (zc := #[.int .u8 0]) Try.underlying30 Try.sizeOf5 (by decide) (.inr ⟨by decide, _, Try.zeroValue5, (by kernel_rfl)⟩) (by kernel_rfl) (by kernel_rfl) H) (fun x46 h_5 w_5 H HA_5 => ?_)
          refine ls_fr (b := ⟨#[x0, undef, x8, x16, x0, x5, x6, x7, x8, x0, x10, x11, x12, x8, x14, x15, x16, x0, x0, x19, x20, x21, x8, x23, x24, x25, x26, x0, x28, x29, x29, (D 0), (D 1), (D 2), x34, x0, x16, x37, x38, x39, x40, x0, x0, x43, x44, x45, x46, (D_1 7), (D_1 8), (D_1 9), (D_1 10)], []⟩) (by kernel_rfl) ?_
          refine ls_d (d := some 47) (by kernel_rfl) (by kernel_rfl) HA_5 (d_app (z := #[.int .u8 0]) Try.underlying30 Try.underlying30 (.inl ⟨_, rfl⟩) Try.typeInfo5 (by kernel_rfl) Try.sizeOf5 Try.zeroValue5 (by kernel_rfl) (by kernel_rfl) (by kernel_rfl) H) (fun x47 h_6 w_6 H HA_6 => ?_)
          refine ls_p (d := some 48) (by kernel_rfl) (by kernel_rfl) (p_nil (by kernel_rfl) H) (fun x48 H => ?_)
          refine ls_p (d := some 49) (by kernel_rfl) (by kernel_rfl) (p_off Try.underlying72 rfl (fun w => ⟨_, Try.sizeOf30 w⟩) rfl (by kernel_rfl) H) (fun x49 H => ?_)
          refine ls_d (d := none) (by kernel_rfl) (by kernel_rfl) HA_6 (d_st Try.sizeOf30 (by kernel_rfl) (by kernel_rfl) H) (fun _ h_7 w_7 H HA_7 => ?_)
          refine ls_nil ?_
          refine block_normal ?_
          refine then_normal ?_
          refine fr_eq (b := ⟨#[x0, undef, x8, x16, x0, x5, x6, x7, x8, x0, x10, x11, x12, x8, x14, x15, x16, x0, x0, x19, x20, x21, x8, x23, x24, x25, x26, x0, x28, x29, x29, (D 0), (D 1), (D 2), x34, x0, x16, x37, x38, x39, x40, x0, x0, x43, x44, x45, x46, x47, x48, x49, (D_1 10)], []⟩) (by kernel_rfl) ?_
          refine lwp_list ?_
          refine ls_p (d := some 50) (by kernel_rfl) (by kernel_rfl) (p_add (by kernel_rfl) (by kernel_rfl) H) (fun x50 H => ?_)
          refine ls_move (x := x50) (by kernel_rfl) (by kernel_rfl) ?_
          refine ls_nil ?_
          exact ⟨⟨(fun i => ([x40, x0, x0, x43, x44, x45, x46, x47, x48, x49, x50]).getD i undef), x50, h_7, by kernel_rfl, HA_7, H.1⟩, loop_lt HA_7.heap HA_4.heap (by kernel_rfl) (by kernel_rfl) H.2⟩
        · refine wp_exit ?_
          refine then_exit ?_
          refine then_exit ?_
          refine block_exit ?_
          exact end0 (Try.results80) (by kernel_rfl) HA_4 H _ (.inl rfl)

end Go.Proofs.Ytlcklnbgknhhkaa

end

section
/- The shallow reading of one function, and that the function does it. Written by a program. -/
set_option linter.unusedVariables false
namespace Go.Proofs.Ytlcklnbgknhhkaa
open Go Go.HW

def ldisc_Disc_Flush_S (x0 : Value) (h : Heap) (R : Value → Heap → Prop) : Prop :=
  sNil x0 fun x5 =>
  sOff x5 17 fun x6 =>
  sSt h x6 (.slice none 0 0) fun h => 
  sNil x0 fun x7 =>
  sOff x7 18 fun x8 =>
  sSt h x8 (.slice none 0 0) fun h_1 => 
  sNil x0 fun x9 =>
  sOff x9 19 fun x10 =>
  sSt h_1 x10 (.slice none 0 0) fun h_2 => 
  R unit h_2
set_option maxRecDepth 100000 in
theorem ldisc_Disc_Flush_runs {x0 : Value} {h : Heap} {R : Value → Heap → Prop} (H : ldisc_Disc_Flush_S x0 h R) : ldisc_Disc_Flush_c x0 h R := by
  unfold ldisc_Disc_Flush_S at H
  refine runs_of (b := ⟨#[x0, undef, undef, undef, undef, undef, undef, undef, undef, undef, undef], []⟩) Try.call27 Try.func27 rfl (by kernel_rfl) (fun w0 HA => ?_)
  refine lwp_list ?_
  refine ls_move (x := x0) (by kernel_rfl) (by kernel_rfl) ?_
  refine ls_move (x := x0) (by kernel_rfl) (by kernel_rfl) ?_
  refine ls_move (x := x0) (by kernel_rfl) (by kernel_rfl) ?_
  refine ls_p (d := some 5) (by kernel_rfl) (by kernel_rfl) (p_nil (by kernel_rfl) H) (fun x5 H => ?_)
  refine ls_p (d := some 6) (by kernel_rfl) (by kernel_rfl) (p_off Try.underlying72 rfl (fun w => ⟨_, Try.sizeOf30 w⟩) rfl (by kernel_rfl) H) (fun x6 H => ?_)
  refine ls_d (d := none) (by kernel_rfl) (by kernel_rfl) HA (d_st Try.sizeOf30 (by kernel_rfl) (by kernel_rfl) H) (fun _ h w H HA => ?_)
  refine ls_p (d := some 7) (by kernel_rfl) (by kernel_rfl) (p_nil (by kernel_rfl) H) (fun x7 H => ?_)
  refine ls_p (d := some 8) (by kernel_rfl) (by kernel_rfl) (p_off Try.underlying72 rfl (fun w => ⟨_, Try.sizeOf22 w⟩) rfl (by kernel_rfl) H) (fun x8 H => ?_)
  refine ls_d (d := none) (by kernel_rfl) (by kernel_rfl) HA (d_st Try.sizeOf22 (by kernel_rfl) (by kernel_rfl) H) (fun _ h_1 w_1 H HA_1 => ?_)
  refine ls_p (d := some 9) (by kernel_rfl) (by kernel_rfl) (p_nil (by kernel_rfl) H) (fun x9 H => ?_)
  refine ls_p (d := some 10) (by kernel_rfl) (by kernel_rfl) (p_off Try.underlying72 rfl (fun w => ⟨_, Try.sizeOf30 w⟩) rfl (by kernel_rfl) H) (fun x10 H => ?_)
  refine ls_d (d := none) (by kernel_rfl) (by kernel_rfl) HA_1 (d_st Try.sizeOf30 (by kernel_rfl) (by kernel_rfl) H) (fun _ h_2 w_2 H HA_2 => ?_)
  refine ls_nil ?_
  exact end0 (Try.results27) (by kernel_rfl) HA_2 H _ (.inl rfl)

end Go.Proofs.Ytlcklnbgknhhkaa

end

section
/- The shallow reading of one function, and that the function does it. Written by a program. -/
set_option linter.unusedVariables false
namespace Go.Proofs.Ytlcklnbgknhhkaa
open Go Go.HW

def ldisc_Disc_ready_j1 (R : Value → Heap → Prop) (x0 : Value) (h_1 : Heap) : Prop :=
  sNil x0 fun x27 =>
  sOff x27 17 fun x28 =>
  sSt h_1 x28 (.slice none 0 0) fun h_2 => 
  R unit h_2
def ldisc_Disc_ready_S (x0 : Value) (h : Heap) (R : Value → Heap → Prop) : Prop :=
  ∃ C : Heap → Prop, C h ∧ (ldisc_Disc_Ready_c x0 h fun x3 h => C h ∧ (
  sNil x0 fun x5 =>
  sOff x5 17 fun x6 =>
  sLdC C x6 fun x7 =>
  sLen x7 fun x8 =>
  sAdd .i64 x3 x8 fun x9 =>
  sGt x9 (.int .i64 1024) fun x10 =>
  sIf x10 (ldisc_Disc_bell_c x0 h fun x12 h_3 => 
  ldisc_Disc_ready_j1 R x0 h_3) (∃ C_1 : Heap → Prop, C_1 h ∧ (sNil x0 fun x15 =>
  sOff x15 18 fun x16 =>
  sLdC C_1 x16 fun x17 =>
  sNil x0 fun x19 =>
  sOff x19 17 fun x20 =>
  sLd h x20 fun x21 =>
  sSlit h #[.slice none 0 0] [(0, 1, x21)] 30 1 fun x22 h_4 => C_1 h_4 ∧ (
  sApp h_4 x17 x22 #[.slice none 0 0] 30 24 fun x23 h_5 => 
  sNil x0 fun x24 =>
  sOff x24 18 fun x25 =>
  sSt h_5 x25 x23 fun h_6 => 
  ldisc_Disc_ready_j1 R x0 h_6)))))
set_option maxRecDepth 100000 in
theorem ldisc_Disc_ready_runs {x0 : Value} {h : Heap} {R : Value → Heap → Prop} (H : ldisc_Disc_ready_S x0 h R) : ldisc_Disc_ready_c x0 h R := by
  unfold ldisc_Disc_ready_S at H
  refine runs_of (b := ⟨#[x0, undef, undef, undef, undef, undef, undef, undef, undef, undef, undef, undef, undef, undef, undef, undef, undef, undef, undef, undef, undef, undef, undef, undef, undef, undef, undef, undef, undef], []⟩) Try.call83 Try.func83 rfl (by kernel_rfl) (fun w0 HA => ?_)
  refine wp_seq ?_
  refine wp_seq ?_
  obtain ⟨C, HC, H⟩ := H
  refine lwp_mx (Nat.testBit 2) (Nat.testBit 2) (Nat.testBit 477) [0, 1, 0, 4, 12, 28, 60, 127, 255] (Nat.testBit 0) C [0, 1, 2, 3, 4, 5, 6, 7, 8] (by kernel_rfl) (by kernel_rfl) (by kernel_rfl) (by kernel_rfl) HA HC ?_
  intro w HA
  refine lm_al (x := x0) (d := some 2) (by kernel_rfl) rfl (by kernel_rfl) (by kernel_rfl) (al_move (by kernel_rfl)) ?_
  refine lm_dc (d := some 3) (by kernel_rfl) rfl (by kernel_rfl) (by kernel_rfl) (by kernel_rfl) HA (d_call (by kernel_rfl) (by kernel_rfl) H) (fun x3 h w_1 H HA_1 => ?_)
  refine lm_al (x := x0) (d := some 4) (by kernel_rfl) rfl (by kernel_rfl) (by kernel_rfl) (al_move (by kernel_rfl)) ?_
  refine lm_p (d := some 5) (by kernel_rfl) rfl (by kernel_rfl) (by kernel_rfl) (p_nil (by kernel_rfl) H) (fun x5 H => ?_)
  refine lm_p (d := some 6) (by kernel_rfl) rfl (by kernel_rfl) (by kernel_rfl) (p_off Try.underlying72 rfl (fun w => ⟨_, Try.sizeOf30 w⟩) rfl (by kernel_rfl) H) (fun x6 H => ?_)
  refine lm_f (d := some 7) (by kernel_rfl) rfl (by kernel_rfl) (by kernel_rfl) (by kernel_rfl) (by kernel_rfl) (c_ld Try.isAgg30 (by kernel_rfl) H) (fun x7 H => ?_)
  refine lm_fr (b := ⟨#[x0, undef, x0, x3, x0, x5, x6, x7, undef, undef, undef, undef, undef, undef, undef, undef, undef, undef, undef, undef, undef, undef, undef, undef, undef, undef, undef, undef, undef], []⟩) (by kernel_rfl) ?_
  refine lm_p (d := some 8) (by kernel_rfl) rfl (by kernel_rfl) (by kernel_rfl) (p_len Try.underlying30 (by kernel_rfl) H) (fun x8 H => ?_)
  refine lm_p (d := some 9) (by kernel_rfl) rfl (by kernel_rfl) (by kernel_rfl) (p_add (by kernel_rfl) (by kernel_rfl) H) (fun x9 H => ?_)
  refine lm_p (d := some 10) (by kernel_rfl) rfl (by kernel_rfl) (by kernel_rfl) (p_sGt (by kernel_rfl) (by kernel_rfl) H) (fun x10 H => ?_)
  refine lm_nil ?_
  refine then_normal ?_
  refine fr_eq (b := ⟨#[x0, undef, x0, x3, x0, x5, x6, x7, x8, x9, x10, undef, undef, undef, undef, undef, undef, undef, undef, undef, undef, undef, undef, undef, undef, undef, undef, undef, undef], []⟩) (by kernel_rfl) ?_
  refine wp_join (fun a w => ∃ (D : Nat → Value) (h_1 : Heap), a = ⟨#[x0, undef, x0, x3, x0, x5, x6, x7, x8, x9, x10, (D 0), (D 1), (D 2), (D 3), (D 4), (D 5), (D 6), (D 7), (D 8), (D 9), (D 10), (D 11), (D 12), (D 13), (D 14), undef, undef, undef], []⟩ ∧ At w0 w h_1 ∧ ldisc_Disc_ready_j1 R x0 h_1) ?_ ?_
  · refine wp_if rfl H (fun H => ?_) (fun H => ?_)
    · refine lwp_list ?_
      refine ls_move (x := x0) (by kernel_rfl) (by kernel_rfl) ?_
      refine ls_d (d := some 12) (by kernel_rfl) (by kernel_rfl) HA_1 (d_call (by kernel_rfl) (by kernel_rfl) H) (fun x12 h_3 w_4 H HA_4 => ?_)
      refine ls_nil ?_
      exact ⟨(fun i => ([x0, x12, undef, undef, undef, undef, undef, undef, undef, undef, undef, undef, undef, undef, undef]).getD i undef), h_3, by kernel_rfl, HA_4, H⟩
    · obtain ⟨C_1, HC, H⟩ := H
      refine lwp_mx (Nat.testBit 9728) (Nat.testBit 512) (Nat.testBit 6383) [0, 0, 2, 6, 14, 0, 32, 96, 224, 480, 1022, 2047, 4095, 8191] (Nat.testBit 256) C_1 [0, 1, 2, 3, 4, 5, 6, 7, 8, 9, 10, 11, 12, 13] (by kernel_rfl) (by kernel_rfl) (by kernel_rfl) (by kernel_rfl) HA_1 HC ?_
      intro w_5 HA_5
      refine lm_al (x := x0) (d := some 13) (by kernel_rfl) rfl (by kernel_rfl) (by kernel_rfl) (al_move (by kernel_rfl)) ?_
      refine lm_al (x := x0) (d := some 14) (by kernel_rfl) rfl (by kernel_rfl) (by kernel_rfl) (al_move (by kernel_rfl)) ?_
      refine lm_p (d := some 15) (by kernel_rfl) rfl (by kernel_rfl) (by kernel_rfl) (p_nil (by kernel_rfl) H) (fun x15 H => ?_)
      refine lm_p (d := some 16) (by kernel_rfl) rfl (by kernel_rfl) (by kernel_rfl) (p_off Try.underlying72 rfl (fun w => ⟨_, Try.sizeOf22 w⟩) rfl (by kernel_rfl) H) (fun x16 H => ?_)
      refine lm_f (d := some 17) (by kernel_rfl) rfl (by kernel_rfl) (by kernel_rfl) (by kernel_rfl) (by kernel_rfl) (c_ld Try.isAgg22 (by kernel_rfl) H) (fun x17 H => ?_)
      refine lm_al (x := x0) (d := some 18) (by kernel_rfl) rfl (by kernel_rfl) (by kernel_rfl) (al_move (by kernel_rfl)) ?_
      refine lm_fr (b := ⟨#[x0, undef, x0, x3, x0, x5, x6, x7, x8, x9, x10, undef, undef, x0, x0, x15, x16, x17, x0, undef, undef, undef, undef, undef, undef, undef, undef, undef, undef], []⟩) (by kernel_rfl) ?_
      refine lm_p (d := some 19) (by kernel_rfl) rfl (by kernel_rfl) (by kernel_rfl) (p_nil (by kernel_rfl) H) (fun x19 H => ?_)
      refine lm_p (d := some 20) (by kernel_rfl) rfl (by kernel_rfl) (by kernel_rfl) (p_off Try.underlying72 rfl (fun w => ⟨_, Try.sizeOf30 w⟩) rfl (by kernel_rfl) H) (fun x20 H => ?_)
      refine lm_b (d := some 21) (by kernel_rfl) rfl (by kernel_rfl) (by kernel_rfl) (by kernel_rfl) (by kernel_rfl) (y_ld Try.isAgg30 (by kernel_rfl) H) (fun x21 H => ?_)
      refine lm_dc (d := some 22) (by kernel_rfl) rfl (by kernel_rfl) (by kernel_rfl) (by kernel_rfl) HA_5 (d_slit (zc := #[.slice none 0 0]) Try.underlying22 Try.sizeOf30 (by decide) (.inr ⟨by decide, _, Try.zeroValue30, (by kernel_rfl)⟩) (by kernel_rfl) (by kernel_rfl) H) (fun x22 h_4 w_6 H HA_6 => ?_)
      refine lm_d (d := some 23) (by kernel_rfl) rfl (by kernel_rfl) (by kernel_rfl) (by kernel_rfl) HA_6 (d_app (z := #[.slice none 0 0]) Try.underlying22 Try.underlying22 (.inl ⟨_, rfl⟩) Try.typeInfo30 (by kernel_rfl) Try.sizeOf30 Try.zeroValue30 (by kernel_rfl) (by kernel_rfl) (by kernel_rfl) H) (fun x23 h_5 w_7 H HA_7 => ?_)
      refine lm_p (d := some 24) (by kernel_rfl) rfl (by kernel_rfl) (by kernel_rfl) (p_nil (by kernel_rfl) H) (fun x24 H => ?_)
      refine lm_fr (b := ⟨#[x0, undef, x0, x3, x0, x5, x6, x7, x8, x9, x10, undef, undef, x0, x0, x15, x16, x17, x0, x19, x20, x21, x22, x23, x24, undef, undef, undef, undef], []⟩) (by kernel_rfl) ?_
      refine lm_p (d := some 25) (by kernel_rfl) rfl (by kernel_rfl) (by kernel_rfl) (p_off Try.underlying72 rfl (fun w => ⟨_, Try.sizeOf22 w⟩) rfl (by kernel_rfl) H) (fun x25 H => ?_)
      refine lm_d (d := none) (by kernel_rfl) rfl (by kernel_rfl) (by kernel_rfl) (by kernel_rfl) HA_7 (d_st Try.sizeOf22 (by kernel_rfl) (by kernel_rfl) H) (fun _ h_6 w_8 H HA_8 => ?_)
      refine lm_nil ?_
      exact ⟨(fun i => ([undef, undef, x0, x0, x15, x16, x17, x0, x19, x20, x21, x22, x23, x24, x25]).getD i undef), h_6, by kernel_rfl, HA_8, H⟩
  · rintro _ w_2 ⟨D, h_1, rfl, HA_2, H⟩
    unfold ldisc_Disc_ready_j1 at H
    refine then_normal ?_
    refine fr_eq (b := ⟨#[x0, undef, x0, x3, x0, x5, x6, x7, x8, x9, x10, (D 0), (D 1), (D 2), (D 3), (D 4), (D 5), (D 6), (D 7), (D 8), (D 9), (D 10), (D 11), (D 12), (D 13), (D 14), undef, undef, undef], []⟩) (by kernel_rfl) ?_
    refine lwp_list ?_
    refine ls_move (x := x0) (by kernel_rfl) (by kernel_rfl) ?_
    refine ls_p (d := some 27) (by kernel_rfl) (by kernel_rfl) (p_nil (by kernel_rfl) H) (fun x27 H => ?_)
    refine ls_p (d := some 28) (by kernel_rfl) (by kernel_rfl) (p_off Try.underlying72 rfl (fun w => ⟨_, Try.sizeOf30 w⟩) rfl (by kernel_rfl) H) (fun x28 H => ?_)
    refine ls_d (d := none) (by kernel_rfl) (by kernel_rfl) HA_2 (d_st Try.sizeOf30 (by kernel_rfl) (by kernel_rfl) H) (fun _ h_2 w_3 H HA_3 => ?_)
    refine ls_nil ?_
    exact end0 (Try.results83) (by kernel_rfl) HA_3 H _ (.inl rfl)

end Go.Proofs.Ytlcklnbgknhhkaa

end

section
/- The shallow reading of one function, and that the function does it. Written by a program. -/
set_option linter.unusedVariables false
namespace Go.Proofs.Ytlcklnbgknhhkaa
open Go Go.HW

def ldisc_Disc_Ready_l1 (R : Value → Heap → Prop) (x14 x15 : Value) (next : Value → Value → Heap → Prop) (x3 x16 : Value) (h : Heap) : Prop :=
  sLt x16 x15 fun x17 =>
  sIf x17 (sIxS x14 x16 1 fun x18 =>
  sLd h x18 fun x19 =>
  sLen x19 fun x22 =>
  sAdd .i64 x3 x22 fun x23 =>
  sAdd .i64 x16 (.int .i64 1) fun x24 =>
  next x23 x24 h) (R x3 h)
def ldisc_Disc_Ready_S (x0 : Value) (h : Heap) (R : Value → Heap → Prop) : Prop :=
  sNil x0 fun x7 =>
  sOff x7 19 fun x8 =>
  sLd h x8 fun x9 =>
  sLen x9 fun x10 =>
  sNil x0 fun x12 =>
  sOff x12 18 fun x13 =>
  sLd h x13 fun x14 =>
  sLen x14 fun x15 =>
  sLoop (S := Value × Value) (fun nxt s h => ldisc_Disc_Ready_l1 R x14 x15 (fun x3' x16' h => nxt (x3', x16') h) s.1 s.2 h) (x10, (.int .i64 0)) h
set_option maxRecDepth 100000 in
theorem ldisc_Disc_Ready_runs {x0 : Value} {h : Heap} {R : Value → Heap → Prop} (H : ldisc_Disc_Ready_S x0 h R) : ldisc_Disc_Ready_c x0 h R := by
  unfold ldisc_Disc_Ready_S at H
  refine runs_of (b := ⟨#[x0, undef, undef, undef, undef, undef, undef, undef, undef, undef, undef, undef, undef, undef, undef, undef, undef, undef, undef, undef, undef, undef, undef, undef, undef, undef], []⟩) Try.call18 Try.func18 rfl (by kernel_rfl) (fun w0 HA => ?_)
  refine wp_seq ?_
  refine lwp_list ?_
  refine ls_assign (x := (.int .i64 0)) (by kernel_rfl) (by kernel_rfl) ?_
  refine ls_nil ?_
  refine then_normal ?_
  refine fr_eq (b := ⟨#[x0, undef, (.int .i64 0), undef, undef, undef, undef, undef, undef, undef, undef, undef, undef, undef, undef, undef, undef, undef, undef, undef, undef, undef, undef, undef, undef, undef], []⟩) (by kernel_rfl) ?_
  refine wp_seq ?_
  refine lwp_list ?_
  refine ls_move (x := x0) (by kernel_rfl) (by kernel_rfl) ?_
  refine ls_p (d := some 7) (by kernel_rfl) (by kernel_rfl) (p_nil (by kernel_rfl) H) (fun x7 H => ?_)
  refine ls_p (d := some 8) (by kernel_rfl) (by kernel_rfl) (p_off Try.underlying72 rfl (fun w => ⟨_, Try.sizeOf30 w⟩) rfl (by kernel_rfl) H) (fun x8 H => ?_)
  refine ls_y (d := some 9) (by kernel_rfl) (by kernel_rfl) HA (y_ld Try.isAgg30 (by kernel_rfl) H) (fun x9 H => ?_)
  refine ls_p (d := some 10) (by kernel_rfl) (by kernel_rfl) (p_len Try.underlying30 (by kernel_rfl) H) (fun x10 H => ?_)
  refine ls_assign (x := x10) (by kernel_rfl) (by kernel_rfl) ?_
  refine ls_nil ?_
  refine then_normal ?_
  refine fr_eq (b := ⟨#[x0, undef, (.int .i64 0), x10, undef, undef, x0, x7, x8, x9, x10, undef, undef, undef, undef, undef, undef, undef, undef, undef, undef, undef, undef, undef, undef, undef], []⟩) (by kernel_rfl) ?_
  refine wp_seq ?_
  refine wp_seq ?_
  refine lwp_list ?_
  refine ls_move (x := x0) (by kernel_rfl) (by kernel_rfl) ?_
  refine ls_p (d := some 12) (by kernel_rfl) (by kernel_rfl) (p_nil (by kernel_rfl) H) (fun x12 H => ?_)
  refine ls_p (d := some 13) (by kernel_rfl) (by kernel_rfl) (p_off Try.underlying72 rfl (fun w => ⟨_, Try.sizeOf22 w⟩) rfl (by kernel_rfl) H) (fun x13 H => ?_)
  refine ls_y (d := some 14) (by kernel_rfl) (by kernel_rfl) HA (y_ld Try.isAgg22 (by kernel_rfl) H) (fun x14 H => ?_)
  refine ls_p (d := some 15) (by kernel_rfl) (by kernel_rfl) (p_len Try.underlying22 (by kernel_rfl) H) (fun x15 H => ?_)
  refine ls_move (x := (.int .i64 0)) (by kernel_rfl) (by kernel_rfl) ?_
  refine ls_nil ?_
  refine then_normal ?_
  refine fr_eq (b := ⟨#[x0, undef, (.int .i64 0), x10, undef, undef, x0, x7, x8, x9, x10, x0, x12, x13, x14, x15, (.int .i64 0), undef, undef, undef, undef, undef, undef, undef, undef, undef], []⟩) (by kernel_rfl) ?_
  refine wp_block ?_
  obtain ⟨I, m, H0, HB⟩ := H
  refine wp_loop (fun a w => ∃ (D : Nat → Value) (x3 x16 : Value) (h : Heap), a = ⟨#[x0, undef, (.int .i64 0), x3, undef, (D 0), x0, x7, x8, x9, x10, x0, x12, x13, x14, x15, x16, (D 1), (D 2), (D 3), (D 4), (D 5), (D 6), (D 7), (D 8), undef], []⟩ ∧ At w0 w h ∧ I (x3, x16) h) (fun a w => m ((a.tmps.getD 3 undef), (a.tmps.getD 16 undef)) w.heap) ?_ ?_
  · exact ⟨(fun i => ([undef, undef, undef, undef, undef, undef, undef, undef, undef]).getD i undef), x10, (.int .i64 0), h, by kernel_rfl, HA, H0⟩
  · rintro _ w ⟨D, x3, x16, h, rfl, HA, HI⟩
    have H : ldisc_Disc_Ready_l1 R x14 x15 (fun x3' x16' h' => I (x3', x16') h' ∧ m (x3', x16') h' < m (x3, x16) h) x3 x16 h := HB (x3, x16) h HI
    clear HB H0 HI
    unfold ldisc_Disc_Ready_l1 at H
    refine wp_seq ?_
    refine lwp_list ?_
    refine ls_p (d := some 17) (by kernel_rfl) (by kernel_rfl) (p_sLt (by kernel_rfl) (by kernel_rfl) H) (fun x17 H => ?_)
    refine ls_nil ?_
    refine then_normal ?_
    refine fr_eq (b := ⟨#[x0, undef, (.int .i64 0), x3, undef, (D 0), x0, x7, x8, x9, x10, x0, x12, x13, x14, x15, x16, x17, (D 2), (D 3), (D 4), (D 5), (D 6), (D 7), (D 8), undef], []⟩) (by kernel_rfl) ?_
    refine wp_seq ?_
    refine wp_if rfl H (fun H => ?_) (fun H => ?_)
    · refine wp_skip ?_
      refine then_normal ?_
      refine fr_eq (b := ⟨#[x0, undef, (.int .i64 0), x3, undef, (D 0), x0, x7, x8, x9, x10, x0, x12, x13, x14, x15, x16, x17, (D 2), (D 3), (D 4), (D 5), (D 6), (D 7), (D 8), undef], []⟩) (by kernel_rfl) ?_
      refine wp_seq ?_
      refine wp_block ?_
      refine wp_seq ?_
      refine lwp_list ?_
      refine ls_p (d := some 18) (by kernel_rfl) (by kernel_rfl) (p_ixs Try.underlying22 Try.sizeOf30 (by kernel_rfl) (by kernel_rfl) H) (fun x18 H => ?_)
      refine ls_y (d := some 19) (by kernel_rfl) (by kernel_rfl) HA (y_ld Try.isAgg30 (by kernel_rfl) H) (fun x19 H => ?_)
      refine ls_assign (x := x19) (by kernel_rfl) (by kernel_rfl) ?_
      refine ls_nil ?_
      refine then_normal ?_
      refine fr_eq (b := ⟨#[x0, undef, (.int .i64 0), x3, undef, x19, x0, x7, x8, x9, x10, x0, x12, x13, x14, x15, x16, x17, x18, x19, (D 4), (D 5), (D 6), (D 7), (D 8), undef], []⟩) (by kernel_rfl) ?_
      refine lwp_list ?_
      refine ls_move (x := x3) (by kernel_rfl) (by kernel_rfl) ?_
      refine ls_move (x := x19) (by kernel_rfl) (by kernel_rfl) ?_
      refine ls_p (d := some 22) (by kernel_rfl) (by kernel_rfl) (p_len Try.underlying30 (by kernel_rfl) H) (fun x22 H => ?_)
      refine ls_p (d := some 23) (by kernel_rfl) (by kernel_rfl) (p_add (by kernel_rfl) (by kernel_rfl) H) (fun x23 H => ?_)
      refine ls_assign (x := x23) (by kernel_rfl) (by kernel_rfl) ?_
      refine ls_nil ?_
      refine block_normal ?_
      refine then_normal ?_
      refine fr_eq (b := ⟨#[x0, undef, (.int .i64 0), x23, undef, x19, x0, x7, x8, x9, x10, x0, x12, x13, x14, x15, x16, x17, x18, x19, x3, x19, x22, x23, (D 8), undef], []⟩) (by kernel_rfl) ?_
      refine lwp_list ?_
      refine ls_p (d := some 24) (by kernel_rfl) (by kernel_rfl) (p_add (by kernel_rfl) (by kernel_rfl) H) (fun x24 H => ?_)
      refine ls_move (x := x24) (by kernel_rfl) (by kernel_rfl) ?_
      refine ls_nil ?_
      exact ⟨⟨(fun i => ([x19, x17, x18, x19, x3, x19, x22, x23, x24]).getD i undef), x23, x24, h, by kernel_rfl, HA, H.1⟩, loop_lt HA.heap HA.heap (by kernel_rfl) (by kernel_rfl) H.2⟩
    · refine wp_exit ?_
      refine then_exit ?_
      refine then_exit ?_
      refine block_exit ?_
      refine then_normal ?_
      refine fr_eq (b := ⟨#[x0, undef, (.int .i64 0), x3, undef, (D 0), x0, x7, x8, x9, x10, x0, x12, x13, x14, x15, x16, x17, (D 2), (D 3), (D 4), (D 5), (D 6), (D 7), (D 8), undef], []⟩) (by kernel_rfl) ?_
      refine wp_seq ?_
      refine lwp_list ?_
      refine ls_move (x := x3) (by kernel_rfl) (by kernel_rfl) ?_
      refine ls_assign (x := x3) (by kernel_rfl) (by kernel_rfl) ?_
      refine ls_nil ?_
      refine then_normal ?_
      refine fr_eq (b := ⟨#[x0, undef, x3, x3, undef, (D 0), x0, x7, x8, x9, x10, x0, x12, x13, x14, x15, x16, x17, (D 2), (D 3), (D 4), (D 5), (D 6), (D 7), (D 8), x3], []⟩) (by kernel_rfl) ?_
      refine wp_ret ?_
      exact end1 (Try.results18) (by kernel_rfl) (by kernel_rfl) HA H _ (.inr rfl)

end Go.Proofs.Ytlcklnbgknhhkaa

end

section
/- The shallow reading of one function, and that the function does it. Written by a program. -/
set_option linter.unusedVariables false
namespace Go.Proofs.Ytlcklnbgknhhkaa
open Go Go.HW

def ldisc_Disc_Line_S (x0 : Value) (h : Heap) (R : Value → Heap → Prop) : Prop :=
  sNil x0 fun x4 =>
  sOff x4 17 fun x5 =>
  sLd h x5 fun x6 =>
  slices_Clone_byte_byte_c x6 h fun x7 h => 
  R x7 h
set_option maxRecDepth 100000 in
theorem ldisc_Disc_Line_runs {x0 : Value} {h : Heap} {R : Value → Heap → Prop} (H : ldisc_Disc_Line_S x0 h R) : ldisc_Disc_Line_c x0 h R := by
  unfold ldisc_Disc_Line_S at H
  refine runs_of (b := ⟨#[x0, undef, undef, undef, undef, undef, undef, undef], []⟩) Try.call20 Try.func20 rfl (by kernel_rfl) (fun w0 HA => ?_)
  refine wp_seq ?_
  refine lwp_list ?_
  refine ls_assign (x := (.slice none 0 0)) (by kernel_rfl) (by kernel_rfl) ?_
  refine ls_nil ?_
  refine then_normal ?_
  refine fr_eq (b := ⟨#[x0, undef, (.slice none 0 0), undef, undef, undef, undef, undef], []⟩) (by kernel_rfl) ?_
  refine wp_seq ?_
  refine lwp_list ?_
  refine ls_move (x := x0) (by kernel_rfl) (by kernel_rfl) ?_
  refine ls_p (d := some 4) (by kernel_rfl) (by kernel_rfl) (p_nil (by kernel_rfl) H) (fun x4 H => ?_)
  refine ls_p (d := some 5) (by kernel_rfl) (by kernel_rfl) (p_off Try.underlying72 rfl (fun w => ⟨_, Try.sizeOf30 w⟩) rfl (by kernel_rfl) H) (fun x5 H => ?_)
  refine ls_y (d := some 6) (by kernel_rfl) (by kernel_rfl) HA (y_ld Try.isAgg30 (by kernel_rfl) H) (fun x6 H => ?_)
  refine ls_d (d := some 7) (by kernel_rfl) (by kernel_rfl) HA (d_call (by kernel_rfl) (by kernel_rfl) H) (fun x7 h w H HA => ?_)
  refine ls_assign (x := x7) (by kernel_rfl) (by kernel_rfl) ?_
  refine ls_nil ?_
  refine then_normal ?_
  refine fr_eq (b := ⟨#[x0, undef, x7, x0, x4, x5, x6, x7], []⟩) (by kernel_rfl) ?_
  refine wp_ret ?_
  exact end1 (Try.results20) (by kernel_rfl) (by kernel_rfl) HA H _ (.inr rfl)

end Go.Proofs.Ytlcklnbgknhhkaa

end

section
/- The shallow reading of one function, and that the function does it. Written by a program. -/
set_option linter.unusedVariables false
namespace Go.Proofs.Ytlcklnbgknhhkaa
open Go Go.HW

def ldisc_Disc_Stopped_S (x0 : Value) (h : Heap) (R : Value → Heap → Prop) : Prop :=
  sNil x0 fun x4 =>
  sOff x4 20 fun x5 =>
  sLd h x5 fun x6 =>
  R x6 h
set_option maxRecDepth 100000 in
theorem ldisc_Disc_Stopped_runs {x0 : Value} {h : Heap} {R : Value → Heap → Prop} (H : ldisc_Disc_Stopped_S x0 h R) : ldisc_Disc_Stopped_c x0 h R := by
  unfold ldisc_Disc_Stopped_S at H
  refine runs_of (b := ⟨#[x0, undef, undef, undef, undef, undef, undef], []⟩) Try.call31 Try.func31 rfl (by kernel_rfl) (fun w0 HA => ?_)
  refine wp_seq ?_
  refine lwp_list ?_
  refine ls_assign (x := (.bool false)) (by kernel_rfl) (by kernel_rfl) ?_
  refine ls_nil ?_
  refine then_normal ?_
  refine fr_eq (b := ⟨#[x0, undef, (.bool false), undef, undef, undef, undef], []⟩) (by kernel_rfl) ?_
  refine wp_seq ?_
  refine lwp_list ?_
  refine ls_move (x := x0) (by kernel_rfl) (by kernel_rfl) ?_
  refine ls_p (d := some 4) (by kernel_rfl) (by kernel_rfl) (p_nil (by kernel_rfl) H) (fun x4 H => ?_)
  refine ls_p (d := some 5) (by kernel_rfl) (by kernel_rfl) (p_off Try.underlying72 rfl (fun w => ⟨_, Try.sizeOf4 w⟩) rfl (by kernel_rfl) H) (fun x5 H => ?_)
  refine ls_y (d := some 6) (by kernel_rfl) (by kernel_rfl) HA (y_ld Try.isAgg4 (by kernel_rfl) H) (fun x6 H => ?_)
  refine ls_assign (x := x6) (by kernel_rfl) (by kernel_rfl) ?_
  refine ls_nil ?_
  refine then_normal ?_
  refine fr_eq (b := ⟨#[x0, undef, x6, x0, x4, x5, x6], []⟩) (by kernel_rfl) ?_
  refine wp_ret ?_
  exact end1 (Try.results31) (by kernel_rfl) (by kernel_rfl) HA H _ (.inr rfl)

end Go.Proofs.Ytlcklnbgknhhkaa

end

section
/- The shallow reading of one function, and that the function does it. Written by a program. -/
set_option linter.unusedVariables false
namespace Go.Proofs.Ytlcklnbgknhhkaa
open Go Go.HW

def slices_Clone_byte_byte_S (x0 : Value) (h : Heap) (R : Value → Heap → Prop) : Prop :=
  sEqlNilS x0 fun x4 =>
  sIf x4 (R (.slice none 0 0) h) (sSlit h #[] [] 5 0 fun x5 h => 
  sApp h x5 x0 #[.int .u8 0] 5 1 fun x7 h_1 => 
  R x7 h_1)
set_option maxRecDepth 100000 in
theorem slices_Clone_byte_byte_runs {x0 : Value} {h : Heap} {R : Value → Heap → Prop} (H : slices_Clone_byte_byte_S x0 h R) : slices_Clone_byte_byte_c x0 h R := by
  unfold slices_Clone_byte_byte_S at H
  refine runs_of (b := ⟨#[x0, undef, undef, undef, undef, undef, undef, undef], []⟩) Try.call42 Try.func42 rfl (by kernel_rfl) (fun w0 HA => ?_)
  refine wp_seq ?_
  refine lwp_list ?_
  refine ls_assign (x := (.slice none 0 0)) (by kernel_rfl) (by kernel_rfl) ?_
  refine ls_nil ?_
  refine then_normal ?_
  refine fr_eq (b := ⟨#[x0, undef, (.slice none 0 0), undef, undef, undef, undef, undef], []⟩) (by kernel_rfl) ?_
  refine wp_seq ?_
  refine wp_seq ?_
  refine lwp_list ?_
  refine ls_move (x := x0) (by kernel_rfl) (by kernel_rfl) ?_
  refine ls_p (d := some 4) (by kernel_rfl) (by kernel_rfl) (p_eqlNilS Try.underlying30 (by kernel_rfl) (by kernel_rfl) H) (fun x4 H => ?_)
  refine ls_nil ?_
  refine then_normal ?_
  refine fr_eq (b := ⟨#[x0, undef, (.slice none 0 0), x0, x4, undef, undef, undef], []⟩) (by kernel_rfl) ?_
  refine wp_if rfl H (fun H => ?_) (fun H => ?_)
  · refine wp_seq ?_
    refine lwp_list ?_
    refine ls_assign (x := (.slice none 0 0)) (by kernel_rfl) (by kernel_rfl) ?_
    refine ls_nil ?_
    refine then_normal ?_
    refine fr_eq (b := ⟨#[x0, undef, (.slice none 0 0), x0, x4, undef, undef, undef], []⟩) (by kernel_rfl) ?_
    refine wp_ret ?_
    refine then_ret ?_
    exact end1 (Try.results42) (by kernel_rfl) (by kernel_rfl) HA H _ (.inr rfl)
  · refine wp_skip ?_
    refine then_normal ?_
    refine fr_eq (b := ⟨#[x0, undef, (.slice none 0 0), x0, x4, undef, undef, undef], []⟩) (by kernel_rfl) ?_
    refine wp_seq ?_
    refine lwp_list ?_
    refine ls_d (d := some 5) (by kernel_rfl) (by kernel_rfl) HA (d_slit (zc := #[]) Try.underlying30 Try.sizeOf5 (by decide) (.inl ⟨(by kernel_rfl), (by kernel_rfl)⟩) (by kernel_rfl) (by kernel_rfl) H) (fun x5 h w H HA => ?_)
    refine ls_move (x := x0) (by kernel_rfl) (by kernel_rfl) ?_
    refine ls_d (d := some 7) (by kernel_rfl) (by kernel_rfl) HA (d_app (z := #[.int .u8 0]) Try.underlying30 Try.underlying30 (.inl ⟨_, rfl⟩) Try.typeInfo5 (by kernel_rfl) Try.sizeOf5 Try.zeroValue5 (by kernel_rfl) (by kernel_rfl) (by kernel_rfl) H) (fun x7 h_1 w_1 H HA_1 => ?_)
    refine ls_assign (x := x7) (by kernel_rfl) (by kernel_rfl) ?_
    refine ls_nil ?_
    refine then_normal ?_
    refine fr_eq (b := ⟨#[x0, undef, x7, x0, x4, x5, x0, x7], []⟩) (by kernel_rfl) ?_
    refine wp_ret ?_
    exact end1 (Try.results42) (by kernel_rfl) (by kernel_rfl) HA_1 H _ (.inr rfl)

end Go.Proofs.Ytlcklnbgknhhkaa

end

section
/- The line discipline: its state; what each function of it comes to. -/
set_option linter.unusedSimpArgs false
set_option linter.unusedVariables false
namespace Go.Proofs.Ytlcklnbgknhhkaa
open Go Go.HW

abbrev CV := {v : Value // Cell1 v}
def encCV (c : CV) : List Value := [c.1]
theorem encCV_len (c : CV) : (encCV c).length = 1 := rfl
theorem encCV_cell (c : CV) : ∀ u ∈ encCV c, Cell1 u := by intro u hu; simp [encCV] at hu; subst hu; exact c.2
def rowsU (rs : List (CV × List Int)) : HP := HP.all (rs.map fun p => Sl (encI .u8) 1 p.1.1 p.2)

structure D where
  t : Tm
  ln : List Int
  ls : List (List Int)
  ra : List Int
  st : Bool
  nx : Bool
  ec : List Int
def D.loc (d : D) (f : Int) : Bool := hasB d.t.l f
def D.inn (d : D) (f : Int) : Bool := hasB d.t.i f
def D.pict (d : D) (c : Int) : List Int := if (d.loc 32 && ((decide (c < 32) && c != 9 && c != 10) || c == 127)) = true then [94, bitsOf .xor .u8 c 64] else [c]
def D.emit (d : D) (l : List Int) : D := { d with ec := d.ec ++ l }
def D.show (d : D) (c : Int) : D := if d.loc 2 = true then d.emit (d.pict c) else d
def D.bell (d : D) : D := if d.inn 64 = true then d.emit [7] else d
def D.ends (d : D) (c : Int) : Bool := c == 10 || d.t.is 4 c
def D.put1 (d : D) (c : Int) : D := (if (c == 10 && d.loc 1 && d.loc 16 && !d.loc 2) = true then d.emit [c] else d).show c
def D.put (d : D) (c : Int) : D × Bool :=
  if (!d.loc 1 && decide (d.ra.length < 1024)) = true then (({ d with ra := d.ra ++ [c] } : D).put1 c, true)
  else if (d.loc 1 && (decide (d.ln.length < 254) || (d.ends c && decide (d.ln.length < 255)))) = true then (({ d with ln := d.ln ++ [c] } : D).put1 c, true)
  else (d.bell, false)
def backs : Nat → List Int
  | 0 => []
  | n + 1 => backs n ++ [8, 32, 8]
def D.cutLast (d : D) : D := { d with ln := d.ln.dropLast }
def D.back (d : D) : D := if (!d.loc 2 || !d.loc 4) = true then d.cutLast else d.cutLast.emit (backs (d.pict (d.ln.getLastD 0)).length)
def sumL (ls : List (List Int)) : Nat := (ls.map List.length).sum
def D.readyN (d : D) : Nat := d.ra.length + sumL d.ls
def D.ready (d : D) : D := if d.readyN + d.ln.length > 1024 then { d.bell with ln := [] } else { d with ls := d.ls ++ [d.ln], ln := [] }
def D.flush (d : D) : D := { d with ln := [], ls := [], ra := [] }
/-- How much there is of it. -/
def D.wt (d : D) : Nat := d.ln.length * 8 + d.ec.length + d.ra.length + d.ls.length + sumL d.ls
theorem pict_len (d : D) (c : Int) : (d.pict c).length ≤ 2 ∧ 1 ≤ (d.pict c).length := by unfold D.pict; split <;> simp
theorem backs_len : ∀ n, (backs n).length = 3 * n
  | 0 => rfl
  | n + 1 => by rw [backs, List.length_append, backs_len n]; simp; omega
theorem emit_wt (d : D) (l : List Int) : (d.emit l).wt = d.wt + l.length := by unfold D.emit D.wt; simp only [List.length_append]; omega
theorem show_wt (d : D) (c : Int) : (d.show c).wt ≤ d.wt + 2 := by
  unfold D.show; split
  · rw [emit_wt]; have := (pict_len d c).1; omega
  · omega
theorem bell_wt (d : D) : d.bell.wt ≤ d.wt + 1 := by
  unfold D.bell; split
  · rw [emit_wt]; simp
  · omega
theorem put1_wt (d : D) (c : Int) : (d.put1 c).wt ≤ d.wt + 3 := by
  unfold D.put1
  split
  · have := show_wt (d.emit [c]) c; rw [emit_wt] at this; simp at this; omega
  · have := show_wt d c; omega
theorem put_wt (d : D) (c : Int) : (d.put c).1.wt ≤ d.wt + 11 := by
  unfold D.put
  split
  · have := put1_wt { d with ra := d.ra ++ [c] } c
    have e : ({ d with ra := d.ra ++ [c] } : D).wt = d.wt + 1 := by unfold D.wt; simp only [List.length_append, List.length_cons, List.length_nil]; omega
    simp only; omega
  · split
    · have := put1_wt { d with ln := d.ln ++ [c] } c
      have e : ({ d with ln := d.ln ++ [c] } : D).wt = d.wt + 8 := by unfold D.wt; simp only [List.length_append, List.length_cons, List.length_nil]; omega
      simp only; omega
    · have := bell_wt d; simp only; omega
theorem cut_wt (d : D) (h : d.ln ≠ []) : d.cutLast.wt + 8 = d.wt := by
  unfold D.cutLast D.wt
  have : 0 < d.ln.length := by cases hd : d.ln with
    | nil => exact (h hd).elim
    | cons a b => simp
  simp only [List.length_dropLast]; omega
theorem back_wt (d : D) (h : d.ln ≠ []) : d.back.wt ≤ d.wt := by
  have := cut_wt d h
  unfold D.back
  split
  · omega
  · rw [emit_wt, backs_len]; have := (pict_len d (d.ln.getLastD 0)).1; omega
theorem sumL_append (a : List (List Int)) (l : List Int) : sumL (a ++ [l]) = sumL a + l.length := by unfold sumL; simp
theorem ready_wt (d : D) : d.ready.wt ≤ d.wt + 1 := by
  unfold D.ready
  split
  · have e : ({ d.bell with ln := [] } : D).wt ≤ d.bell.wt := by unfold D.wt; simp only [List.length_nil]; omega
    have := bell_wt d; omega
  · unfold D.wt; simp only [List.length_append, List.length_cons, List.length_nil, sumL_append]; omega

def dC (d : D) (lv sv rv ev : Value) : Array Value := (d.t.e ++ [lv, sv, rv, .bool d.st, .bool d.nx, ev]).toArray
def Dc (k : Nat) (d : D) : HP := HP.ex fun p : (Value × Value × Value × Value) × {rs : List (CV × List Int) // rs.map (·.2) = d.ls} => HP.all [Blk k (dC d p.1.1 p.1.2.1 p.1.2.2.1 p.1.2.2.2) 72, Sl (encI .u8) 1 p.1.1 d.ln, Sl encCV 1 p.1.2.1 (p.2.1.map (·.1)), rowsU p.2.1, Sl (encI .u8) 1 p.1.2.2.1 d.ra, Sl (encI .u8) 1 p.1.2.2.2 d.ec]

theorem idx_perm (L : List HP) (idx : List Nat) (h : idx.Perm (List.range L.length)) : L.Perm (idx.map fun i => L.getD i HP.emp) := by
  have e : (List.range L.length).map (fun i => L.getD i HP.emp) = L := by
    refine List.ext_getElem (by simp) (fun i h1 h2 => ?_)
    simp [List.getD_eq_getElem?_getD, List.getElem?_eq_getElem h2]
  have := (h.map fun i => L.getD i HP.emp).symm
  rwa [e] at this
/-- The first ones in another order. -/
theorem selF {h0 h : Heap} {F L : List HP} (s : HW.Sep h0 (L ++ F) h) (idx : List Nat) (hn : L.length = idx.length) (hp : idx.Perm (List.range idx.length)) : HW.Sep h0 ((idx.map fun i => L.getD i HP.emp) ++ F) h := s.perm ((idx_perm L idx (hn ▸ hp)).append_right F)
section
variable {h0 h : Heap} {F : List HP} {R : Value → Heap → Prop} {k : Nat} {d : D} {lv sv rv ev : Value} {rs : List (CV × List Int)}
theorem p5 {A B C D E G : HP} (s : HW.Sep h0 (A :: B :: C :: D :: E :: G :: F) h) : HW.Sep h0 (B :: C :: D :: E :: G :: A :: F) h := s.perm (List.perm_middle (l₁ := [B, C, D, E, G])).symm
theorem Dopen (s : HW.Sep h0 (Dc k d :: F) h) : ∃ lv sv rv ev, ∃ rs : List (CV × List Int), rs.map (·.2) = d.ls ∧ HW.Sep h0 (Blk k (dC d lv sv rv ev) 72 :: Sl (encI .u8) 1 lv d.ln :: Sl encCV 1 sv (rs.map (·.1)) :: rowsU rs :: Sl (encI .u8) 1 rv d.ra :: Sl (encI .u8) 1 ev d.ec :: F) h := by
  obtain ⟨⟨⟨lv, sv, rv, ev⟩, rs, e⟩, s⟩ := s.open_ex
  exact ⟨lv, sv, rv, ev, rs, e, s.open_all⟩
theorem Dshut (e : rs.map (·.2) = d.ls) (s : HW.Sep h0 (Blk k (dC d lv sv rv ev) 72 :: Sl (encI .u8) 1 lv d.ln :: Sl encCV 1 sv (rs.map (·.1)) :: rowsU rs :: Sl (encI .u8) 1 rv d.ra :: Sl (encI .u8) 1 ev d.ec :: F) h) : HW.Sep h0 (Dc k d :: F) h :=
  Sep.shut_ex (A := fun p : (Value × Value × Value × Value) × {rs : List (CV × List Int) // rs.map (·.2) = d.ls} => HP.all [Blk k (dC d p.1.1 p.1.2.1 p.1.2.2.1 p.1.2.2.2) 72, Sl (encI .u8) 1 p.1.1 d.ln, Sl encCV 1 p.1.2.1 (p.2.1.map (·.1)), rowsU p.2.1, Sl (encI .u8) 1 p.1.2.2.1 d.ra, Sl (encI .u8) 1 p.1.2.2.2 d.ec]) (((lv, sv, rv, ev), ⟨rs, e⟩)) (Sep.shut_all (L := [_, _, _, _, _, _]) s)
theorem tup0 {a b : Value} {K : Value → Prop} : sTup (.tuple #[a, b]) 0 K = K a := by rw [ev_tup]; rfl
theorem tup1 {a b : Value} {K : Value → Prop} : sTup (.tuple #[a, b]) 1 K = K b := by rw [ev_tup]; rfl
theorem bits_has {o k : Int} {K : Value → Prop} : sBits .and .i64 (.int .i64 o) (.int .i64 k) (fun x => sNe x (.int .i64 0) K) = K (.bool (hasB o k)) := by rw [ev_bits, ev_ne]; rfl
theorem local_b {f : Int} (b : h.has k (dC d lv sv rv ev) 72) (H : R (.bool (d.loc f)) h) : ldisc_Disc_local_c (ptr k 0) (.int .i64 f) h R := by
  apply ldisc_Disc_local_runs
  unfold ldisc_Disc_local_S
  have f2 : ∀ {K : Value → Prop}, sLd h (ptr k 2) K = K (.int .i64 d.t.l) := ev_ld_has b rfl
  simp only [ev_nil, ev_off, Nat.zero_add, f2]
  rw [bits_has]
  exact H
theorem in_b {f : Int} (b : h.has k (dC d lv sv rv ev) 72) (H : R (.bool (d.inn f)) h) : ldisc_Disc_in_c (ptr k 0) (.int .i64 f) h R := by
  apply ldisc_Disc_in_runs
  unfold ldisc_Disc_in_S
  have f2 : ∀ {K : Value → Prop}, sLd h (ptr k 0) K = K (.int .i64 d.t.i) := ev_ld_has b rfl
  simp only [ev_nil, ev_off, Nat.zero_add, f2]
  rw [bits_has]
  exact H
theorem Dhas (s : HW.Sep h0 (Dc k d :: F) h) : ∃ lv sv rv ev, h.has k (dC d lv sv rv ev) 72 := by
  obtain ⟨lv, sv, rv, ev, rs, e, s⟩ := Dopen s
  exact ⟨lv, sv, rv, ev, s.has⟩
theorem local_spec {f : Int} (s : HW.Sep h0 (Dc k d :: F) h) (H : R (.bool (d.loc f)) h) : ldisc_Disc_local_c (ptr k 0) (.int .i64 f) h R := by
  obtain ⟨lv, sv, rv, ev, b⟩ := Dhas s
  exact local_b b H
theorem in_spec {f : Int} (s : HW.Sep h0 (Dc k d :: F) h) (H : R (.bool (d.inn f)) h) : ldisc_Disc_in_c (ptr k 0) (.int .i64 f) h R := by
  obtain ⟨lv, sv, rv, ev, b⟩ := Dhas s
  exact in_b b H
theorem blk_part {h : Heap} {k t o n : Nat} {c : Array Value} {K : Value → Prop} (hb : h.has k c t) (ys rest : List Value) (hp : c.toList.drop o = ys ++ rest) (hn : ys.length = n) : sLdN h (ptr k o) n K = K (.agg ys.toArray) := by
  have hl : h.lay k o ys := fun i u hu => by
    rw [hb.at]
    have : (c.toList.drop o)[i]? = some u := by rw [hp, List.getElem?_append_left (List.getElem?_eq_some_iff.1 hu).1]; exact hu
    rw [List.getElem?_drop] at this
    simpa using this
  rw [hl.ldn hn]
theorem dt_ld (b : h.has k (dC d lv sv rv ev) 72) {K : Value → Prop} : sLdN h (ptr k 0) 17 K = K d.t.v := blk_part b d.t.e [lv, sv, rv, .bool d.st, .bool d.nx, ev] rfl rfl
theorem dis_b {w c : Int} (b : h.has k (dC d lv sv rv ev) 72) (hc : 0 ≤ c ∧ c < 256) (H : ∀ h', Ext h h' → R (.bool (d.t.is w c)) h') : ldisc_Disc_is_c (ptr k 0) (.int .i64 w) (.int .u8 c) h R := by
  apply ldisc_Disc_is_runs
  unfold ldisc_Disc_is_S
  rw [ev_nil, ev_off, Nat.zero_add, dt_ld b]
  exact is_spec hc H
theorem dis_spec {w c : Int} (s : HW.Sep h0 (Dc k d :: F) h) (hc : 0 ≤ c ∧ c < 256) (H : ∀ h', HW.Sep h0 (Dc k d :: F) h' → R (.bool (d.t.is w c)) h') : ldisc_Disc_is_c (ptr k 0) (.int .i64 w) (.int .u8 c) h R := by
  obtain ⟨lv, sv, rv, ev, b⟩ := Dhas s
  exact dis_b b hc (fun h' e => H h' (s.ext' e))
theorem ends_spec {c : Int} (s : HW.Sep h0 (Dc k d :: F) h) (hc : 0 ≤ c ∧ c < 256) (H : ∀ h', Ext h h' → R (.bool (d.ends c)) h') : ldisc_Disc_ends_c (ptr k 0) (.int .u8 c) h R := by
  apply ldisc_Disc_ends_runs
  unfold ldisc_Disc_ends_S
  obtain ⟨lv, sv, rv, ev, b⟩ := Dhas s
  rw [ev_eq]
  refine or_ext (y := d.t.is 4 c) (fun _ K' HK => dis_b b hc (fun h' e => HK _ e)) (fun h' e => H h' e)
theorem picture_b {c : Int} (b : h.has k (dC d lv sv rv ev) 72) (s : HW.Sep h0 F h) (H : ∀ v h', Cell1 v → HW.Sep h0 (Sl (encI .u8) 1 v (d.pict c) :: F) h' → R v h') : ldisc_Disc_picture_c (ptr k 0) (.int .u8 c) h R := by
  apply ldisc_Disc_picture_runs
  unfold ldisc_Disc_picture_S
  refine local_b b ?_
  simp only [ev_lt, ev_ne, ev_and_p, ev_eq, ev_or_p, ev_if, ev_bits]
  unfold D.pict at H
  split
  · rename_i hp
    rw [if_pos hp] at H
    exact s.slit (enc := encI .u8) (sz := 1) (encI_len .u8) [94, bitsOf .xor .u8 c 64] rfl ⟨rfl, Nat.le_of_ble_eq_true rfl, rfl, Nat.le_of_ble_eq_true rfl, rfl⟩ (fun v h1 cv s1 => H v h1 cv s1)
  · rename_i hp
    rw [if_neg hp] at H
    exact s.slit (enc := encI .u8) (sz := 1) (encI_len .u8) [c] rfl ⟨rfl, Nat.le_of_ble_eq_true rfl, rfl⟩ (fun v h1 cv s1 => H v h1 cv s1)
/-- Bytes are added to what is shown. -/
theorem emit_o {K : Heap → Prop} {z : Array Value} {ps : List (Nat × Nat × Value)} {n : Nat} (s : HW.Sep h0 (Blk k (dC d lv sv rv ev) 72 :: Sl (encI .u8) 1 lv d.ln :: Sl encCV 1 sv (rs.map (·.1)) :: rowsU rs :: Sl (encI .u8) 1 rv d.ra :: Sl (encI .u8) 1 ev d.ec :: F) h) (l : List Int) (hl : l.length = n) (hf : sFill z ps fun cs => cs = (l.flatMap (encI .u8)).toArray) (hb : d.wt ≤ 1073741824) (hn : n ≤ 1000) (HK : ∀ ev' h', HW.Sep h0 (Blk k (dC (d.emit l) lv sv rv ev') 72 :: Sl (encI .u8) 1 lv d.ln :: Sl encCV 1 sv (rs.map (·.1)) :: rowsU rs :: Sl (encI .u8) 1 rv d.ra :: Sl (encI .u8) 1 ev' (d.ec ++ l) :: F) h' → K h') :
    sNil (ptr k 0) fun x6 => sOff x6 22 fun x7 => sLd h x7 fun x8 => sSlit h z ps 5 n fun x9 h1 => sApp h1 x8 x9 #[.int .u8 0] 5 1 fun x10 h2 => sNil (ptr k 0) fun x11 => sOff x11 22 fun x12 => sSt h2 x12 x10 fun h3 => K h3 := by
  have f22 : ∀ {K : Value → Prop}, sLd h (ptr k 22) K = K ev := s.ld rfl
  simp only [ev_nil, ev_off, Nat.zero_add, f22]
  unfold D.wt at hb
  refine s.slit (enc := encI .u8) (sz := 1) (encI_len .u8) l hl hf (fun v h1 cv s1 => ?_)
  refine s1.b6.app (enc := encI .u8) (sz := 1) rfl (by decide) (encI_len .u8) (encI_cell .u8) s1.seq (by omega) (by decide) (fun v2 h2 cv2 s2 => ?_)
  refine s2.b2.st (Nat.le_of_ble_eq_true rfl) cv2 (fun h3 s3 => ?_)
  have s4 : HW.Sep h0 (Blk k (dC (d.emit l) lv sv rv v2) 72 :: Sl (encI .u8) 1 v2 (d.ec ++ l) :: Sl (encI .u8) 1 v l :: Sl (encI .u8) 1 lv d.ln :: Sl encCV 1 sv (rs.map (·.1)) :: rowsU rs :: Sl (encI .u8) 1 rv d.ra :: F) h3 := s3
  exact HK v2 h3 (p5 s4.b2.tail.b1)
theorem emit_spec {K : Heap → Prop} {z : Array Value} {ps : List (Nat × Nat × Value)} {n : Nat} (s : HW.Sep h0 (Dc k d :: F) h) (l : List Int) (hl : l.length = n) (hf : sFill z ps fun cs => cs = (l.flatMap (encI .u8)).toArray) (hb : d.wt ≤ 1073741824) (hn : n ≤ 1000) (HK : ∀ h', HW.Sep h0 (Dc k (d.emit l) :: F) h' → K h') :
    sNil (ptr k 0) fun x6 => sOff x6 22 fun x7 => sLd h x7 fun x8 => sSlit h z ps 5 n fun x9 h1 => sApp h1 x8 x9 #[.int .u8 0] 5 1 fun x10 h2 => sNil (ptr k 0) fun x11 => sOff x11 22 fun x12 => sSt h2 x12 x10 fun h3 => K h3 := by
  obtain ⟨lv, sv, rv, ev, rs, e, s⟩ := Dopen s
  exact emit_o s l hl hf hb hn (fun ev' h' s' => HK h' (Dshut (d := d.emit l) e s'))
theorem bell_spec (s : HW.Sep h0 (Dc k d :: F) h) (hb : d.wt ≤ 1073741824) (H : ∀ h', HW.Sep h0 (Dc k d.bell :: F) h' → R unit h') : ldisc_Disc_bell_c (ptr k 0) h R := by
  apply ldisc_Disc_bell_runs
  unfold ldisc_Disc_bell_S
  refine in_spec s ?_
  unfold D.bell at H
  rw [ev_if]
  cases hh : d.inn 64 with
  | true => rw [hh] at H; rw [if_pos rfl]; exact emit_spec s [7] rfl ⟨rfl, Nat.le_of_ble_eq_true rfl, rfl⟩ hb (by decide) H
  | false => rw [hh] at H; rw [if_neg (by decide)]; exact H h s
theorem show_o {c : Int} (s : HW.Sep h0 (Blk k (dC d lv sv rv ev) 72 :: Sl (encI .u8) 1 lv d.ln :: Sl encCV 1 sv (rs.map (·.1)) :: rowsU rs :: Sl (encI .u8) 1 rv d.ra :: Sl (encI .u8) 1 ev d.ec :: F) h) (hb : d.wt ≤ 1073741824) (H : ∀ ev' h', HW.Sep h0 (Blk k (dC (d.show c) lv sv rv ev') 72 :: Sl (encI .u8) 1 lv d.ln :: Sl encCV 1 sv (rs.map (·.1)) :: rowsU rs :: Sl (encI .u8) 1 rv d.ra :: Sl (encI .u8) 1 ev' (d.show c).ec :: F) h' → R unit h') : ldisc_Disc_show_c (ptr k 0) (.int .u8 c) h R := by
  apply ldisc_Disc_show_runs
  unfold ldisc_Disc_show_S
  refine local_b s.has ?_
  unfold D.show at H
  rw [ev_if]
  cases hh : d.loc 2 with
  | false => rw [hh] at H; rw [if_neg (by decide)]; exact H ev h s
  | true =>
    rw [hh, if_pos rfl] at H
    rw [if_pos rfl]
    have b : h.has k (dC d lv sv rv ev) 72 := s.has
    refine ⟨fun h' => h'.has k (dC d lv sv rv ev) 72, b, ?_⟩
    have c22 : ∀ {K : Value → Prop}, sLdC (fun h' => h'.has k (dC d lv sv rv ev) 72) (ptr k 22) K = K ev := fun {K} => ldc_at (C := fun h' => h'.has k (dC d lv sv rv ev) 72) (h0 := h) b (fun h' e => by rw [e.at]; rfl)
    rw [ev_nil, ev_off, Nat.zero_add, c22]
    refine picture_b b s (fun v h1 cv s1 => ⟨s1.b1.has, ?_⟩)
    have pl := (pict_len d c).1
    unfold D.wt at hb
    refine s1.b6.app (enc := encI .u8) (sz := 1) rfl (by decide) (encI_len .u8) (encI_cell .u8) s1.seq (by omega) (by decide) (fun v2 h2 cv2 s2 => ?_)
    rw [ev_nil, ev_off, Nat.zero_add]
    refine s2.b2.st (Nat.le_of_ble_eq_true rfl) cv2 (fun h3 s3 => ?_)
    have s4 : HW.Sep h0 (Blk k (dC (d.emit (d.pict c)) lv sv rv v2) 72 :: Sl (encI .u8) 1 v2 (d.ec ++ d.pict c) :: Sl (encI .u8) 1 v (d.pict c) :: Sl (encI .u8) 1 lv d.ln :: Sl encCV 1 sv (rs.map (·.1)) :: rowsU rs :: Sl (encI .u8) 1 rv d.ra :: F) h3 := s3
    exact H v2 h3 (p5 s4.b2.tail.b1)
theorem show_spec {c : Int} (s : HW.Sep h0 (Dc k d :: F) h) (hb : d.wt ≤ 1073741824) (H : ∀ h', HW.Sep h0 (Dc k (d.show c) :: F) h' → R unit h') : ldisc_Disc_show_c (ptr k 0) (.int .u8 c) h R := by
  obtain ⟨lv, sv, rv, ev, rs, e, s⟩ := Dopen s
  have el : (d.show c).ln = d.ln := by unfold D.show; split <;> rfl
  have es : (d.show c).ls = d.ls := by unfold D.show; split <;> rfl
  have er : (d.show c).ra = d.ra := by unfold D.show; split <;> rfl
  refine show_o s hb (fun ev' h' s' => H h' (Dshut (d := d.show c) (rs := rs) (lv := lv) (sv := sv) (rv := rv) (ev := ev') (by rw [es]; exact e) ?_))
  rw [el, er]; exact s'
theorem put_j2 {c : Int} (s : HW.Sep h0 (Dc k d :: F) h) (hb : d.wt ≤ 1073741824) (H : ∀ h', HW.Sep h0 (Dc k (d.show c) :: F) h' → R (.bool true) h') : ldisc_Disc_put_j2 R (ptr k 0) (.int .u8 c) h := by
  unfold ldisc_Disc_put_j2
  exact show_spec s hb (fun h' s' => H h' s')
theorem put_j1 {c : Int} (s : HW.Sep h0 (Dc k d :: F) h) (hb : d.wt ≤ 1073741823) (H : ∀ h', HW.Sep h0 (Dc k (d.put1 c) :: F) h' → R (.bool true) h') : ldisc_Disc_put_j1 R (ptr k 0) (.int .u8 c) h := by
  unfold ldisc_Disc_put_j1
  rw [ev_eq]
  refine and_ext (y := d.loc 1) (fun _ K' HK => local_spec s (HK _ (Ext.refl _))) (fun h1 e1 => ?_)
  have s1 := s.ext' e1
  refine and_ext (y := d.loc 16) (fun _ K' HK => local_spec s1 (HK _ (Ext.refl _))) (fun h2 e2 => ?_)
  have s2 := s1.ext' e2
  refine and_ext (y := !d.loc 2) (fun _ K' HK => local_spec s2 (by rw [ev_not]; exact HK _ (Ext.refl _))) (fun h3 e3 => ?_)
  have s3 := s2.ext' e3
  rw [ev_if]
  unfold D.put1 at H
  split
  · rename_i hp
    rw [if_pos hp] at H
    exact emit_spec s3 [c] rfl ⟨rfl, Nat.le_of_ble_eq_true rfl, rfl⟩ (by omega) (by decide) (fun h4 s4 => put_j2 s4 (by rw [emit_wt]; simp; omega) H)
  · rename_i hp
    rw [if_neg hp] at H
    exact put_j2 s3 (by omega) H
theorem lens (s : HW.Sep h0 (Dc k d :: F) h) : ∃ lv sv rv ev, h.has k (dC d lv sv rv ev) 72 ∧ Seq (encI .u8) 1 h lv d.ln ∧ Seq (encI .u8) 1 h rv d.ra ∧ Seq (encI .u8) 1 h ev d.ec := by
  obtain ⟨lv, sv, rv, ev, rs, e, s⟩ := Dopen s
  exact ⟨lv, sv, rv, ev, s.has, s.b1.seq, s.b4.seq, s.b5.seq⟩
theorem put_spec {c : Int} (s : HW.Sep h0 (Dc k d :: F) h) (hc : 0 ≤ c ∧ c < 256) (hb : d.wt ≤ 1073741000) (H : ∀ h', HW.Sep h0 (Dc k (d.put c).1 :: F) h' → R (.bool (d.put c).2) h') : ldisc_Disc_put_c (ptr k 0) (.int .u8 c) h R := by
  apply ldisc_Disc_put_runs
  unfold ldisc_Disc_put_S
  refine local_spec s ?_
  obtain ⟨lv, sv, rv, ev, rs, e, so⟩ := Dopen s
  have f19 : ∀ {K : Value → Prop}, sLd h (ptr k 19) K = K rv := so.ld rfl
  have l19 : ∀ {K : Value → Prop}, sLen rv K = K (.int .i64 d.ra.length) := fun {K} => so.b4.seq.len
  simp only [ev_nil, ev_off, Nat.zero_add, f19, l19, ev_not, ev_lt, ev_and_p, ev_if]
  unfold D.put at H
  have hl : decide ((d.ra.length : Int) < 1024) = decide (d.ra.length < 1024) := by rw [Bool.eq_iff_iff]; simp; omega
  rw [hl]
  have wts := hb
  unfold D.wt at wts
  by_cases h1 : (!d.loc 1 && decide (d.ra.length < 1024)) = true
  · rw [if_pos h1] at H ⊢
    refine so.slit (enc := encI .u8) (sz := 1) (encI_len .u8) [c] rfl ⟨rfl, Nat.le_of_ble_eq_true rfl, rfl⟩ (fun v h2 cv s1 => ?_)
    refine s1.b5.app (enc := encI .u8) (sz := 1) rfl (by decide) (encI_len .u8) (encI_cell .u8) s1.seq (by simp only [List.length_cons, List.length_nil]; omega) (by decide) (fun v2 h3 cv2 s2 => ?_)
    refine s2.b2.st (Nat.le_of_ble_eq_true rfl) cv2 (fun h4 s3 => ?_)
    have s4 : HW.Sep h0 (Blk k (dC { d with ra := d.ra ++ [c] } lv sv v2 ev) 72 :: Sl (encI .u8) 1 v2 (d.ra ++ [c]) :: Sl (encI .u8) 1 v [c] :: Sl (encI .u8) 1 lv d.ln :: Sl encCV 1 sv (rs.map (·.1)) :: rowsU rs :: Sl (encI .u8) 1 ev d.ec :: F) h4 := s3
    refine put_j1 (d := { d with ra := d.ra ++ [c] }) (Dshut e s4.b2.tail.b1.p4) (by unfold D.wt; simp only [List.length_append, List.length_cons, List.length_nil]; omega) H
  rw [if_neg h1] at H ⊢
  refine local_spec s ?_
  refine and_ext (y := (decide (d.ln.length < 254) || (d.ends c && decide (d.ln.length < 255)))) (fun _ K' HK => ?_) (fun h2 e2 => ?_)
  · have f17 : ∀ {K : Value → Prop}, sLd h (ptr k 17) K = K lv := so.ld rfl
    have q := so.b1.seq
    rw [f17, q.len, ev_lt]
    have hl2 : decide ((d.ln.length : Int) < 254) = decide (d.ln.length < 254) := by rw [Bool.eq_iff_iff]; simp; omega
    rw [hl2]
    refine or_ext (y := d.ends c && decide (d.ln.length < 255)) (fun _ K'' HK' => ?_) (fun h3 e3 => HK _ e3)
    refine ends_spec s hc (fun h3 e3 => ?_)
    have f17' : ∀ {K : Value → Prop}, sLd h3 (ptr k 17) K = K lv := (so.ext' e3).ld rfl
    have lq : ∀ {K : Value → Prop}, sLen lv K = K (.int .i64 d.ln.length) := fun {K} => q.len
    simp only [f17', lq, ev_lt, ev_and_p]
    have hl3 : decide ((d.ln.length : Int) < 255) = decide (d.ln.length < 255) := by rw [Bool.eq_iff_iff]; simp; omega
    rw [hl3]
    exact HK' _ e3
  have s2 := so.ext' e2
  rw [ev_if]
  by_cases hp : (d.loc 1 && (decide (d.ln.length < 254) || (d.ends c && decide (d.ln.length < 255)))) = true
  · rw [if_pos hp] at H ⊢
    have f17 : ∀ {K : Value → Prop}, sLd h2 (ptr k 17) K = K lv := s2.ld rfl
    rw [f17]
    refine s2.slit (enc := encI .u8) (sz := 1) (encI_len .u8) [c] rfl ⟨rfl, Nat.le_of_ble_eq_true rfl, rfl⟩ (fun v h3 cv s3 => ?_)
    refine s3.b2.app (enc := encI .u8) (sz := 1) rfl (by decide) (encI_len .u8) (encI_cell .u8) s3.seq (by simp only [List.length_cons, List.length_nil]; omega) (by decide) (fun v2 h4 cv2 s4 => ?_)
    refine s4.b2.st (Nat.le_of_ble_eq_true rfl) cv2 (fun h5 s5 => ?_)
    have s6 : HW.Sep h0 (Blk k (dC { d with ln := d.ln ++ [c] } v2 sv rv ev) 72 :: Sl (encI .u8) 1 v2 (d.ln ++ [c]) :: Sl (encI .u8) 1 v [c] :: Sl encCV 1 sv (rs.map (·.1)) :: rowsU rs :: Sl (encI .u8) 1 rv d.ra :: Sl (encI .u8) 1 ev d.ec :: F) h5 := s5
    refine put_j1 (d := { d with ln := d.ln ++ [c] }) (Dshut e s6.b2.tail) (by unfold D.wt; simp only [List.length_append, List.length_cons, List.length_nil]; omega) H
  · rw [if_neg hp] at H ⊢
    exact bell_spec (s.ext' e2) (by omega) (fun h3 s3 => H h3 s3)
theorem back_spec (s : HW.Sep h0 (Dc k d :: F) h) (hne : d.ln ≠ []) (hb : d.wt ≤ 1073741000) (H : ∀ h', HW.Sep h0 (Dc k d.back :: F) h' → R unit h') : ldisc_Disc_back_c (ptr k 0) h R := by
  apply ldisc_Disc_back_runs
  unfold ldisc_Disc_back_S
  obtain ⟨lv, sv, rv, ev, rs, e, s⟩ := Dopen s
  have hp : 0 < d.ln.length := by cases hd : d.ln with
    | nil => exact (hne hd).elim
    | cons a b => simp
  have wts := hb
  unfold D.wt at wts
  have f17 : ∀ {K : Value → Prop}, sLd h (ptr k 17) K = K lv := s.ld rfl
  have q := s.b1.seq
  have l17 : ∀ {K : Value → Prop}, sLen lv K = K (.int .i64 d.ln.length) := fun {K} => q.len
  simp only [ev_nil, ev_off, Nat.zero_add, f17, l17, ev_sub]
  rw [wrap_i64 (by omega) (by omega), show (d.ln.length : Int) - 1 = ((d.ln.length - 1 : Nat) : Int) by omega]
  have hg : d.ln[d.ln.length - 1]? = some (d.ln.getLastD 0) := by
    rw [List.getLastD_eq_getLast?, List.getLast?_eq_getElem?, List.getElem?_eq_getElem (by omega)]; rfl
  rw [Seq.ld q hg rfl]
  refine q.slK (i := 0) (j := d.ln.length - 1) (by omega) (by omega) rfl ⟨.i64, rfl⟩ ?_
  have s1 := (s.b1.cutr (j := d.ln.length - 1) (by omega)).b1
  have cl : Cell1 (HW.cutP lv 0 (d.ln.length - 1) 1) := s1.b1.cell
  refine s1.st (Nat.le_of_ble_eq_true rfl) cl (fun h1 s2 => ?_)
  have hdl : d.ln.take (d.ln.length - 1) = d.ln.dropLast := by rw [List.dropLast_eq_take]
  rw [hdl] at s2
  have s3 : HW.Sep h0 (Dc k d.cutLast :: F) h1 := Dshut (d := d.cutLast) e s2
  have cw := cut_wt d hne
  unfold D.back at H
  refine local_spec s3 ?_
  rw [ev_not]
  refine or_ext (y := !d.loc 4) (fun _ K' HK => local_spec s3 (by rw [ev_not]; exact HK _ (Ext.refl _))) (fun h2 e2 => ?_)
  have s4 := s3.ext' e2
  rw [ev_if]
  have el : (!d.cutLast.loc 2 || !d.loc 4) = (!d.loc 2 || !d.loc 4) := rfl
  rw [el]
  by_cases hh : (!d.loc 2 || !d.loc 4) = true
  · rw [if_pos hh] at H ⊢; exact H h2 s4
  rw [if_neg hh] at H ⊢
  obtain ⟨lv', sv', rv', ev', b4⟩ := Dhas s4
  have ep : d.cutLast.pict (d.ln.getLastD 0) = d.pict (d.ln.getLastD 0) := rfl
  refine picture_b b4 s4 (fun v h3 cv s5 => ?_)
  rw [s5.seq.len, ep]
  have pl := (pict_len d (d.ln.getLastD 0)).1
  generalize (d.pict (d.ln.getLastD 0)).length = n at H pl
  have s5 := s5.tail
  refine ⟨fun t h' => ∃ i : Nat, i ≤ n ∧ t = .int .i64 i ∧ HW.Sep h0 (Dc k (d.cutLast.emit (backs i)) :: F) h', fun t _ => match t with | .int _ i => (n - i).toNat | _ => 0, ⟨0, Nat.zero_le _, rfl, ?_⟩, ?_⟩
  · have : d.cutLast.emit (backs 0) = d.cutLast := by unfold D.emit backs; simp
    rw [this]; exact s5
  rintro _ h4 ⟨i, hi, rfl, s6⟩
  simp only []
  unfold ldisc_Disc_back_l1
  rw [ev_lt, ev_if]
  by_cases hlt : i < n
  · rw [if_pos (decide_eq_true (by omega))]
    refine emit_spec s6 [8, 32, 8] rfl ⟨rfl, Nat.le_of_ble_eq_true rfl, rfl, Nat.le_of_ble_eq_true rfl, rfl, Nat.le_of_ble_eq_true rfl, rfl⟩ (by rw [emit_wt, backs_len]; omega) (by decide) (fun h5 s7 => ?_)
    rw [ev_add, wrap_i64 (by omega) (by omega)]
    refine ⟨⟨i + 1, hlt, by rw [Int.natCast_add]; rfl, ?_⟩, by simp only; omega⟩
    have : d.cutLast.emit (backs (i + 1)) = (d.cutLast.emit (backs i)).emit [8, 32, 8] := by unfold D.emit; simp only [backs, List.append_assoc]
    rw [this]; exact s7
  · have : i = n := by omega
    subst this
    rw [if_neg (by simp)]
    exact H h4 s6
end
end Go.Proofs.Ytlcklnbgknhhkaa

end

section
/- The shallow reading of one function, and that the function does it. Written by a program. -/
set_option linter.unusedVariables false
namespace Go.Proofs.Ytlcklnbgknhhkaa
open Go Go.HW

def ldisc_Disc_backWhile_l1 (R : Value → Heap → Prop) (x0 x1 : Value) (next : Heap → Prop) (h : Heap) : Prop :=
  sNil x0 fun x5 =>
  sOff x5 17 fun x6 =>
  sLd h x6 fun x7 =>
  sLen x7 fun x8 =>
  sGt x8 (.int .i64 0) fun x9 =>
  sAndH x9 h (fun k =>
  sNil x0 fun x13 =>
  sOff x13 17 fun x14 =>
  sLd h x14 fun x15 =>
  sNil x0 fun x17 =>
  sOff x17 17 fun x18 =>
  sLd h x18 fun x19 =>
  sLen x19 fun x20 =>
  sSub .i64 x20 (.int .i64 1) fun x21 =>
  sIxS x15 x21 1 fun x22 =>
  sLd h x22 fun x23 =>
  sCallV Try.prog x1 #[x23] h fun x24 h_3 => 
  k x24 h_3) fun x25 h_1 =>
  sIf x25 (ldisc_Disc_back_c x0 h_1 fun x27 h_2 => 
  next h_2) (R unit h_1)
def ldisc_Disc_backWhile_S (x0 x1 : Value) (h : Heap) (R : Value → Heap → Prop) : Prop :=
  sLoop (S := Unit) (fun nxt s h => ldisc_Disc_backWhile_l1 R x0 x1 (fun  h => nxt () h)  h) () h
set_option maxRecDepth 100000 in
theorem ldisc_Disc_backWhile_runs {x0 x1 : Value} {h : Heap} {R : Value → Heap → Prop} (H : ldisc_Disc_backWhile_S x0 x1 h R) : ldisc_Disc_backWhile_c x0 x1 h R := by
  unfold ldisc_Disc_backWhile_S at H
  refine runs_of (b := ⟨#[x0, x1, undef, undef, undef, undef, undef, undef, undef, undef, undef, undef, undef, undef, undef, undef, undef, undef, undef, undef, undef, undef, undef, undef, undef, undef, undef, undef], []⟩) Try.call81 Try.func81 rfl (by kernel_rfl) (fun w0 HA => ?_)
  refine wp_block ?_
  obtain ⟨I, m, H0, HB⟩ := H
  refine wp_loop (fun a w => ∃ (D : Nat → Value) (h : Heap), a = ⟨#[x0, x1, undef, undef, (D 0), (D 1), (D 2), (D 3), (D 4), (D 5), (D 6), (D 7), (D 8), (D 9), (D 10), (D 11), (D 12), (D 13), (D 14), (D 15), (D 16), (D 17), (D 18), (D 19), (D 20), (D 21), (D 22), (D 23)], []⟩ ∧ At w0 w h ∧ I () h) (fun a w => m () w.heap) ?_ ?_
  · exact ⟨(fun i => ([undef, undef, undef, undef, undef, undef, undef, undef, undef, undef, undef, undef, undef, undef, undef, undef, undef, undef, undef, undef, undef, undef, undef, undef]).getD i undef), h, by kernel_rfl, HA, H0⟩
  · rintro _ w ⟨D, h, rfl, HA, HI⟩
    have H : ldisc_Disc_backWhile_l1 R x0 x1 (fun  h' => I () h' ∧ m () h' < m () h)  h := HB () h HI
    clear HB H0 HI
    unfold ldisc_Disc_backWhile_l1 at H
    refine wp_seq ?_
    refine wp_seq ?_
    refine lwp_mx (Nat.testBit 1048576) (Nat.testBit 0) (Nat.testBit 2586615) [0, 1, 3, 7, 15, 31, 63, 127, 127, 383, 895, 1919, 127, 4223, 12415, 28799, 61567, 127103, 262015, 524159, 1048575, 2097151] (Nat.testBit 0) (fun h' => h' = h) [0, 1, 2, 3, 4, 5, 6, 7, 8, 9, 10, 11, 12, 13, 14, 15, 16, 17, 18, 19, 20, 21] (by kernel_rfl) (by kernel_rfl) (by kernel_rfl) (by kernel_rfl) HA rfl ?_
    intro w_1 HA_1
    refine lm_al (x := x0) (d := some 4) (by kernel_rfl) rfl (by kernel_rfl) (by kernel_rfl) (al_move (by kernel_rfl)) ?_
    refine lm_p (d := some 5) (by kernel_rfl) rfl (by kernel_rfl) (by kernel_rfl) (p_nil (by kernel_rfl) H) (fun x5 H => ?_)
    refine lm_p (d := some 6) (by kernel_rfl) rfl (by kernel_rfl) (by kernel_rfl) (p_off Try.underlying72 rfl (fun w => ⟨_, Try.sizeOf30 w⟩) rfl (by kernel_rfl) H) (fun x6 H => ?_)
    refine lm_f (d := some 7) (by kernel_rfl) rfl (by kernel_rfl) (by kernel_rfl) (by kernel_rfl) (by kernel_rfl) (of_eq (y_ld Try.isAgg30 (by kernel_rfl) H)) (fun x7 H => ?_)
    refine lm_p (d := some 8) (by kernel_rfl) rfl (by kernel_rfl) (by kernel_rfl) (p_len Try.underlying30 (by kernel_rfl) H) (fun x8 H => ?_)
    refine lm_p (d := some 9) (by kernel_rfl) rfl (by kernel_rfl) (by kernel_rfl) (p_sGt (by kernel_rfl) (by kernel_rfl) H) (fun x9 H => ?_)
    refine lm_fr (b := ⟨#[x0, x1, undef, undef, x0, x5, x6, x7, x8, x9, (D 6), (D 7), (D 8), (D 9), (D 10), (D 11), (D 12), (D 13), (D 14), (D 15), (D 16), (D 17), (D 18), (D 19), (D 20), (D 21), (D 22), (D 23)], []⟩) (by kernel_rfl) ?_
    refine lm_al (x := x9) (d := some 10) (by kernel_rfl) rfl (by kernel_rfl) (by kernel_rfl) (al_move (by kernel_rfl)) ?_
    refine lm_andh [(), (), (), (), (), (), (), (), (), (), (), (), (), (), ()] (fun K a w => ∃ (D_1 : Nat → Value) (x25 : Value) (h_1 : Heap), a = ⟨#[x0, x1, undef, undef, x0, x5, x6, x7, x8, x9, x9, (D_1 0), (D_1 1), (D_1 2), (D_1 3), (D_1 4), (D_1 5), (D_1 6), (D_1 7), (D_1 8), (D_1 9), (D_1 10), (D_1 11), (D_1 12), (D_1 13), x25, (D 22), (D 23)], []⟩ ∧ At w0 w h_1 ∧ K x25 h_1) H (fun hb H => ?_) (fun hb H => ?_) ?_
    · refine lm_al (x := x1) (d := some 11) (by kernel_rfl) rfl (by kernel_rfl) (by rw [hb]; kernel_rfl) (al_move (by kernel_rfl)) ?_
      refine lm_al (x := x0) (d := some 12) (by kernel_rfl) rfl (by kernel_rfl) (by rw [hb]; kernel_rfl) (al_move (by kernel_rfl)) ?_
      refine lm_p (d := some 13) (by kernel_rfl) rfl (by kernel_rfl) (by rw [hb]; kernel_rfl) (p_nil (by kernel_rfl) H) (fun x13 H => ?_)
      refine lm_p (d := some 14) (by kernel_rfl) rfl (by kernel_rfl) (by rw [hb]; kernel_rfl) (p_off Try.underlying72 rfl (fun w => ⟨_, Try.sizeOf30 w⟩) rfl (by kernel_rfl) H) (fun x14 H => ?_)
      refine lm_f (d := some 15) (by kernel_rfl) rfl (by kernel_rfl) (by kernel_rfl) (by kernel_rfl) (by rw [hb]; kernel_rfl) (of_eq (y_ld Try.isAgg30 (by kernel_rfl) H)) (fun x15 H => ?_)
      refine lm_fr (b := ⟨#[x0, x1, undef, undef, x0, x5, x6, x7, x8, x9, x9, x1, x0, x13, x14, x15, (D 12), (D 13), (D 14), (D 15), (D 16), (D 17), (D 18), (D 19), (D 20), (D 21), (D 22), (D 23)], []⟩) (by kernel_rfl) ?_
      refine lm_al (x := x0) (d := some 16) (by kernel_rfl) rfl (by kernel_rfl) (by rw [hb]; kernel_rfl) (al_move (by kernel_rfl)) ?_
      refine lm_p (d := some 17) (by kernel_rfl) rfl (by kernel_rfl) (by rw [hb]; kernel_rfl) (p_nil (by kernel_rfl) H) (fun x17 H => ?_)
      refine lm_p (d := some 18) (by kernel_rfl) rfl (by kernel_rfl) (by rw [hb]; kernel_rfl) (p_off Try.underlying72 rfl (fun w => ⟨_, Try.sizeOf30 w⟩) rfl (by kernel_rfl) H) (fun x18 H => ?_)
      refine lm_f (d := some 19) (by kernel_rfl) rfl (by kernel_rfl) (by kernel_rfl) (by kernel_rfl) (by rw [hb]; kernel_rfl) (of_eq (y_ld Try.isAgg30 (by kernel_rfl) H)) (fun x19 H => ?_)
      refine lm_p (d := some 20) (by kernel_rfl) rfl (by kernel_rfl) (by rw [hb]; kernel_rfl) (p_len Try.underlying30 (by kernel_rfl) H) (fun x20 H => ?_)
      refine lm_p (d := some 21) (by kernel_rfl) rfl (by kernel_rfl) (by rw [hb]; kernel_rfl) (p_sub (by kernel_rfl) (by kernel_rfl) H) (fun x21 H => ?_)
      refine lm_fr (b := ⟨#[x0, x1, undef, undef, x0, x5, x6, x7, x8, x9, x9, x1, x0, x13, x14, x15, x0, x17, x18, x19, x20, x21, (D 18), (D 19), (D 20), (D 21), (D 22), (D 23)], []⟩) (by kernel_rfl) ?_
      refine lm_p (d := some 22) (by kernel_rfl) rfl (by kernel_rfl) (by rw [hb]; kernel_rfl) (p_ixs Try.underlying30 Try.sizeOf5 (by kernel_rfl) (by kernel_rfl) H) (fun x22 H => ?_)
      refine lm_f (d := some 23) (by kernel_rfl) rfl (by kernel_rfl) (by kernel_rfl) (by kernel_rfl) (by rw [hb]; kernel_rfl) (of_eq (y_ld Try.isAgg5 (by kernel_rfl) H)) (fun x23 H => ?_)
      refine lm_d (d := some 24) (by kernel_rfl) rfl (by kernel_rfl) (by kernel_rfl) (by rw [hb]; kernel_rfl) HA_1 (d_callx (by kernel_rfl) (by kernel_rfl) H) (fun x24 h_3 w_4 H HA_4 => ?_)
      refine lm_al (x := x24) (d := some 25) (by kernel_rfl) rfl (by kernel_rfl) (by kernel_rfl) (al_pick_t (by rw [hb]; kernel_rfl) (by kernel_rfl)) ?_
      refine lm_nil ?_
      exact ⟨(fun i => ([x1, x0, x13, x14, x15, x0, x17, x18, x19, x20, x21, x22, x23, x24]).getD i undef), x24, h_3, by kernel_rfl, HA_4, H⟩
    · refine lm_skip (d := some 11) (by kernel_rfl) rfl (by rw [hb]; kernel_rfl) ?_
      refine lm_skip (d := some 12) (by kernel_rfl) rfl (by rw [hb]; kernel_rfl) ?_
      refine lm_skip (d := some 13) (by kernel_rfl) rfl (by rw [hb]; kernel_rfl) ?_
      refine lm_skip (d := some 14) (by kernel_rfl) rfl (by rw [hb]; kernel_rfl) ?_
      refine lm_skip (d := some 15) (by kernel_rfl) rfl (by rw [hb]; kernel_rfl) ?_
      refine lm_fr (b := ⟨#[x0, x1, undef, undef, x0, x5, x6, x7, x8, x9, x9, undef, undef, undef, undef, undef, (D 12), (D 13), (D 14), (D 15), (D 16), (D 17), (D 18), (D 19), (D 20), (D 21), (D 22), (D 23)], []⟩) (by kernel_rfl) ?_
      refine lm_skip (d := some 16) (by kernel_rfl) rfl (by rw [hb]; kernel_rfl) ?_
      refine lm_skip (d := some 17) (by kernel_rfl) rfl (by rw [hb]; kernel_rfl) ?_
      refine lm_skip (d := some 18) (by kernel_rfl) rfl (by rw [hb]; kernel_rfl) ?_
      refine lm_skip (d := some 19) (by kernel_rfl) rfl (by rw [hb]; kernel_rfl) ?_
      refine lm_skip (d := some 20) (by kernel_rfl) rfl (by rw [hb]; kernel_rfl) ?_
      refine lm_skip (d := some 21) (by kernel_rfl) rfl (by rw [hb]; kernel_rfl) ?_
      refine lm_fr (b := ⟨#[x0, x1, undef, undef, x0, x5, x6, x7, x8, x9, x9, undef, undef, undef, undef, undef, undef, undef, undef, undef, undef, undef, (D 18), (D 19), (D 20), (D 21), (D 22), (D 23)], []⟩) (by kernel_rfl) ?_
      refine lm_skip (d := some 22) (by kernel_rfl) rfl (by rw [hb]; kernel_rfl) ?_
      refine lm_skip (d := some 23) (by kernel_rfl) rfl (by rw [hb]; kernel_rfl) ?_
      refine lm_skip (d := some 24) (by kernel_rfl) rfl (by rw [hb]; kernel_rfl) ?_
      refine lm_al (x := (.bool false)) (d := some 25) (by kernel_rfl) rfl (by kernel_rfl) (by kernel_rfl) (al_pick_f (by rw [hb]; kernel_rfl) (by kernel_rfl)) ?_
      refine lm_nil ?_
      exact ⟨(fun i => ([undef, undef, undef, undef, undef, undef, undef, undef, undef, undef, undef, undef, undef, undef]).getD i undef), (.bool false), h, by kernel_rfl, HA_1, H⟩
    · rintro _ w_2 ⟨D_1, x25, h_1, rfl, HA_2, H⟩
      refine lm_nil ?_
      refine then_normal ?_
      refine fr_eq (b := ⟨#[x0, x1, undef, undef, x0, x5, x6, x7, x8, x9, x9, (D_1 0), (D_1 1), (D_1 2), (D_1 3), (D_1 4), (D_1 5), (D_1 6), (D_1 7), (D_1 8), (D_1 9), (D_1 10), (D_1 11), (D_1 12), (D_1 13), x25, (D 22), (D 23)], []⟩) (by kernel_rfl) ?_
      refine wp_if rfl H (fun H => ?_) (fun H => ?_)
      · refine wp_skip ?_
        refine then_normal ?_
        refine fr_eq (b := ⟨#[x0, x1, undef, undef, x0, x5, x6, x7, x8, x9, x9, (D_1 0), (D_1 1), (D_1 2), (D_1 3), (D_1 4), (D_1 5), (D_1 6), (D_1 7), (D_1 8), (D_1 9), (D_1 10), (D_1 11), (D_1 12), (D_1 13), x25, (D 22), (D 23)], []⟩) (by kernel_rfl) ?_
        refine wp_block ?_
        refine lwp_list ?_
        refine ls_move (x := x0) (by kernel_rfl) (by kernel_rfl) ?_
        refine ls_d (d := some 27) (by kernel_rfl) (by kernel_rfl) HA_2 (d_call (by kernel_rfl) (by kernel_rfl) H) (fun x27 h_2 w_3 H HA_3 => ?_)
        refine ls_nil ?_
        refine block_normal ?_
        exact ⟨⟨(fun i => ([x0, x5, x6, x7, x8, x9, x9, (D_1 0), (D_1 1), (D_1 2), (D_1 3), (D_1 4), (D_1 5), (D_1 6), (D_1 7), (D_1 8), (D_1 9), (D_1 10), (D_1 11), (D_1 12), (D_1 13), x25, x0, x27]).getD i undef), h_2, by kernel_rfl, HA_3, H.1⟩, loop_lt HA_3.heap HA.heap (by kernel_rfl) (by kernel_rfl) H.2⟩
      · refine wp_exit ?_
        refine then_exit ?_
        refine then_exit ?_
        refine block_exit ?_
        exact end0 (Try.results81) (by kernel_rfl) HA_2 H _ (.inl rfl)

end Go.Proofs.Ytlcklnbgknhhkaa

end

section
/- The shallow reading of one function, and that the function does it. Written by a program. -/
set_option linter.unusedVariables false
namespace Go.Proofs.Ytlcklnbgknhhkaa
open Go Go.HW

def ldisc_isBlank_S (x0 : Value) (h : Heap) (R : Value → Heap → Prop) : Prop :=
  sEq x0 (.int .u8 32) fun x4 =>
  sOr x4 (fun k =>
  sEq x0 (.int .u8 9) fun x7 =>
  k x7) fun x8 =>
  R x8 h
set_option maxRecDepth 100000 in
theorem ldisc_isBlank_runs {x0 : Value} {h : Heap} {R : Value → Heap → Prop} (H : ldisc_isBlank_S x0 h R) : ldisc_isBlank_c x0 h R := by
  unfold ldisc_isBlank_S at H
  refine runs_of (b := ⟨#[x0, undef, undef, undef, undef, undef, undef, undef, undef], []⟩) Try.call86 Try.func86 rfl (by kernel_rfl) (fun w0 HA => ?_)
  refine wp_seq ?_
  refine lwp_list ?_
  refine ls_assign (x := (.bool false)) (by kernel_rfl) (by kernel_rfl) ?_
  refine ls_nil ?_
  refine then_normal ?_
  refine fr_eq (b := ⟨#[x0, undef, (.bool false), undef, undef, undef, undef, undef, undef], []⟩) (by kernel_rfl) ?_
  refine wp_seq ?_
  refine lwp_list ?_
  refine ls_move (x := x0) (by kernel_rfl) (by kernel_rfl) ?_
  refine ls_p (d := some 4) (by kernel_rfl) (by kernel_rfl) (p_sEq (by kernel_rfl) (by kernel_rfl) H) (fun x4 H => ?_)
  refine ls_move (x := x4) (by kernel_rfl) (by kernel_rfl) ?_
  refine ls_or [(), (), ()] (fun K a w => ∃ (D : Nat → Value) (x8 : Value), a = ⟨#[x0, undef, (.bool false), x0, x4, x4, (D 0), (D 1), x8], []⟩ ∧ At w0 w h ∧ K x8) H (fun hb H => ?_) (fun hb H => ?_) ?_
  · refine ls_move (x := x0) (by rw [hb]; kernel_rfl) (by kernel_rfl) ?_
    refine ls_p (d := some 7) (by kernel_rfl) (by rw [hb]; kernel_rfl) (p_sEq (by kernel_rfl) (by kernel_rfl) H) (fun x7 H => ?_)
    refine ls_pick_f (y := x7) (by kernel_rfl) (by rw [hb]; kernel_rfl) (by kernel_rfl) ?_
    refine ls_nil ?_
    refine then_normal ?_
    exact ⟨(fun i => ([x0, x7]).getD i undef), x7, by kernel_rfl, HA, H⟩
  · refine ls_skip (d := some 6) (by kernel_rfl) (by rw [hb]; kernel_rfl) ?_
    refine ls_skip (d := some 7) (by kernel_rfl) (by rw [hb]; kernel_rfl) ?_
    refine ls_pick_t (x := (.bool true)) (by kernel_rfl) (by rw [hb]; kernel_rfl) (by kernel_rfl) ?_
    refine ls_nil ?_
    refine then_normal ?_
    exact ⟨(fun i => ([undef, undef]).getD i undef), (.bool true), by kernel_rfl, HA, H⟩
  · rintro _ w ⟨D, x8, rfl, HA, H⟩
    refine ls_assign (x := x8) (by kernel_rfl) (by kernel_rfl) ?_
    refine ls_nil ?_
    refine then_normal ?_
    refine fr_eq (b := ⟨#[x0, undef, x8, x0, x4, x4, (D 0), (D 1), x8], []⟩) (by kernel_rfl) ?_
    refine wp_ret ?_
    exact end1 (Try.results86) (by kernel_rfl) (by kernel_rfl) HA H _ (.inr rfl)

end Go.Proofs.Ytlcklnbgknhhkaa

end

section
/- The shallow reading of one function, and that the function does it. Written by a program. -/
set_option linter.unusedVariables false
namespace Go.Proofs.Ytlcklnbgknhhkaa
open Go Go.HW

def ldisc_Disc_extended_j1 (R : Value → Heap → Prop) (h : Heap) : Prop :=
  R (.bool true) h
def ldisc_Disc_extended_l3 (R : Value → Heap → Prop) (x0 x58 x59 : Value) (next : Value → Heap → Prop) (x60 : Value) (h_15 : Heap) : Prop :=
  sLt x60 x59 fun x61 =>
  sIf x61 (sIxS x58 x60 1 fun x62 =>
  sLd h_15 x62 fun x63 =>
  ldisc_Disc_show_c x0 x63 h_15 fun x66 h_16 => 
  sAdd .i64 x60 (.int .i64 1) fun x67 =>
  next x67 h_16) (ldisc_Disc_extended_j1 R h_15)
def ldisc_Disc_extended_j2 (R : Value → Heap → Prop) (x0 : Value) (h_14 : Heap) : Prop :=
  sNil x0 fun x56 =>
  sOff x56 17 fun x57 =>
  sLd h_14 x57 fun x58 =>
  sLen x58 fun x59 =>
  sLoop (S := Value) (fun nxt s h => ldisc_Disc_extended_l3 R x0 x58 x59 (fun x60' h => nxt x60' h) s h) (.int .i64 0) h_14
def ldisc_Disc_extended_S (x0 x1 : Value) (h : Heap) (R : Value → Heap → Prop) : Prop :=
  ldisc_Disc_local_c x0 (.int .i64 512) h fun x9 h_1 => 
  sNot x9 fun x10 =>
  sIf x10 (R (.bool false) h_1) (ldisc_Disc_is_c x0 (.int .i64 9) x1 h_1 fun x14 h_2 => 
  sIf x14 (sNil x0 fun x16 =>
  sOff x16 21 fun x17 =>
  sSt h_2 x17 (.bool true) fun h_3 => 
  ldisc_Disc_local_c x0 (.int .i64 2) h_3 fun x19 h_4 => 
  sIf x19 (sNil x0 fun x22 =>
  sOff x22 22 fun x23 =>
  sLd h_4 x23 fun x24 =>
  sSlit h_4 #[.int .u8 0, .int .u8 0] [(0, 1, (.int .u8 94)), (1, 1, (.int .u8 8))] 5 2 fun x25 h_5 => 
  sApp h_5 x24 x25 #[.int .u8 0] 5 1 fun x26 h_6 => 
  sNil x0 fun x27 =>
  sOff x27 22 fun x28 =>
  sSt h_6 x28 x26 fun h_7 => 
  ldisc_Disc_extended_j1 R h_7) (ldisc_Disc_extended_j1 R h_4)) (ldisc_Disc_is_c x0 (.int .i64 7) x1 h_2 fun x32 h_8 => 
  sIf x32 (ldisc_Disc_backWhile_c x0 (.func (.func 86) #[] #[]) h_8 fun x34 h_9 => 
  ldisc_Disc_backWhile_c x0 (.func (.func 87) #[] #[]) h_9 fun x36 h_10 => 
  ldisc_Disc_extended_j1 R h_10) (ldisc_Disc_is_c x0 (.int .i64 8) x1 h_8 fun x40 h_11 => 
  sIf x40 (ldisc_Disc_show_c x0 x1 h_11 fun x43 h_12 => 
  ldisc_Disc_local_c x0 (.int .i64 2) h_12 fun x45 h_13 => 
  sIf x45 (sNil x0 fun x48 =>
  sOff x48 22 fun x49 =>
  sLd h_13 x49 fun x50 =>
  sSlit h_13 #[.int .u8 0] [(0, 1, (.int .u8 10))] 5 1 fun x51 h_17 => 
  sApp h_17 x50 x51 #[.int .u8 0] 5 1 fun x52 h_18 => 
  sNil x0 fun x53 =>
  sOff x53 22 fun x54 =>
  sSt h_18 x54 x52 fun h_19 => 
  ldisc_Disc_extended_j2 R x0 h_19) (ldisc_Disc_extended_j2 R x0 h_13)) (R (.bool false) h_11))))
set_option maxRecDepth 100000 in
theorem ldisc_Disc_extended_runs {x0 x1 : Value} {h : Heap} {R : Value → Heap → Prop} (H : ldisc_Disc_extended_S x0 x1 h R) : ldisc_Disc_extended_c x0 x1 h R := by
  unfold ldisc_Disc_extended_S at H
  refine runs_of (b := ⟨([x0, x1, undef, undef, undef, undef, undef, undef, undef, undef, undef, undef, undef, undef, undef, undef, undef, undef, undef, undef, undef, undef, undef, undef, undef, undef, undef, undef, undef, undef, undef, undef, undef, undef, undef, undef, undef, undef, undef, undef, undef, undef, undef, undef, undef, undef, undef, undef, undef, undef] ++ [undef, undef, undef, undef, undef, undef, undef, undef, undef, undef, undef, undef, undef, undef, undef, undef, undef, undef]).toArray, []⟩) Try.call79 Try.func79 rfl (by kernel_rfl) (fun w0 HA => ?_)
  refine wp_seq ?_
  refine lwp_list ?_
  refine ls_assign (x := (.bool false)) (by kernel_rfl) (by kernel_rfl) ?_
  refine ls_nil ?_
  refine then_normal ?_
  refine fr_eq (b := ⟨([x0, x1, undef, undef, (.bool false), undef, undef, undef, undef, undef, undef, undef, undef, undef, undef, undef, undef, undef, undef, undef, undef, undef, undef, undef, undef, undef, undef, undef, undef, undef, undef, undef, undef, undef, undef, undef, undef, undef, undef, undef, undef, undef, undef, undef, undef, undef, undef, undef, undef, undef] ++ [undef, undef, undef, undef, undef, undef, undef, undef, undef, undef, undef, undef, undef, undef, undef, undef, undef, undef]).toArray, []⟩) (by kernel_rfl) ?_
  refine wp_seq ?_
  refine wp_join (fun a w => ∃ (D : Nat → Value) (h : Heap), a = ⟨([x0, x1, undef, undef, (D 0), undef, (D 1), (D 2), (D 3), (D 4), (D 5), (D 6), (D 7), (D 8), (D 9), (D 10), (D 11), (D 12), (D 13), (D 14), (D 15), (D 16), (D 17), (D 18), (D 19), (D 20), (D 21), (D 22), (D 23), (D 24), (D 25), (D 26), (D 27), (D 28), (D 29), (D 30), (D 31), (D 32), (D 33), (D 34), (D 35), (D 36), (D 37), (D 38), (D 39), (D 40), (D 41), (D 42), (D 43), (D 44)] ++ [(D 45), (D 46), (D 47), (D 48), (D 49), (D 50), (D 51), (D 52), (D 53), (D 54), (D 55), (D 56), (D 57), (D 58), (D 59), (D 60), (D 61), (D 62)]).toArray, []⟩ ∧ At w0 w h ∧ ldisc_Disc_extended_j1 R h) ?_ ?_
  · refine wp_block ?_
    refine wp_seq ?_
    refine lwp_list ?_
    refine ls_move (x := x0) (by kernel_rfl) (by kernel_rfl) ?_
    refine ls_d (d := some 9) (by kernel_rfl) (by kernel_rfl) HA (d_call (by kernel_rfl) (by kernel_rfl) H) (fun x9 h_1 w_1 H HA_1 => ?_)
    refine ls_p (d := some 10) (by kernel_rfl) (by kernel_rfl) (p_not (by kernel_rfl) H) (fun x10 H => ?_)
    refine ls_assign (x := x10) (by kernel_rfl) (by kernel_rfl) ?_
    refine ls_nil ?_
    refine then_normal ?_
    refine fr_eq (b := ⟨([x0, x1, undef, undef, (.bool false), undef, undef, x10, x0, x9, x10, undef, undef, undef, undef, undef, undef, undef, undef, undef, undef, undef, undef, undef, undef, undef, undef, undef, undef, undef, undef, undef, undef, undef, undef, undef, undef, undef, undef, undef, undef, undef, undef, undef, undef, undef, undef, undef, undef, undef] ++ [undef, undef, undef, undef, undef, undef, undef, undef, undef, undef, undef, undef, undef, undef, undef, undef, undef, undef]).toArray, []⟩) (by kernel_rfl) ?_
    refine wp_if rfl H (fun H => ?_) (fun H => ?_)
    · refine wp_seq ?_
      refine lwp_list ?_
      refine ls_assign (x := (.bool false)) (by kernel_rfl) (by kernel_rfl) ?_
      refine ls_nil ?_
      refine then_normal ?_
      refine fr_eq (b := ⟨([x0, x1, undef, undef, (.bool false), undef, undef, x10, x0, x9, x10, undef, undef, undef, undef, undef, undef, undef, undef, undef, undef, undef, undef, undef, undef, undef, undef, undef, undef, undef, undef, undef, undef, undef, undef, undef, undef, undef, undef, undef, undef, undef, undef, undef, undef, undef, undef, undef, undef, undef] ++ [undef, undef, undef, undef, undef, undef, undef, undef, undef, undef, undef, undef, undef, undef, undef, undef, undef, undef]).toArray, []⟩) (by kernel_rfl) ?_
      refine wp_ret ?_
      refine block_ret ?_
      refine then_ret ?_
      refine then_ret ?_
      exact end1 (Try.results79) (by kernel_rfl) (by kernel_rfl) HA_1 H _ (.inr rfl)
    · refine wp_seq ?_
      refine lwp_list ?_
      refine ls_move (x := x0) (by kernel_rfl) (by kernel_rfl) ?_
      refine ls_move (x := x1) (by kernel_rfl) (by kernel_rfl) ?_
      refine ls_d (d := some 14) (by kernel_rfl) (by kernel_rfl) HA_1 (d_call (by kernel_rfl) (by kernel_rfl) H) (fun x14 h_2 w_2 H HA_2 => ?_)
      refine ls_assign (x := x14) (by kernel_rfl) (by kernel_rfl) ?_
      refine ls_nil ?_
      refine then_normal ?_
      refine fr_eq (b := ⟨([x0, x1, undef, undef, (.bool false), undef, undef, x10, x0, x9, x10, x14, x0, x1, x14, undef, undef, undef, undef, undef, undef, undef, undef, undef, undef, undef, undef, undef, undef, undef, undef, undef, undef, undef, undef, undef, undef, undef, undef, undef, undef, undef, undef, undef, undef, undef, undef, undef, undef, undef] ++ [undef, undef, undef, undef, undef, undef, undef, undef, undef, undef, undef, undef, undef, undef, undef, undef, undef, undef]).toArray, []⟩) (by kernel_rfl) ?_
      refine wp_if rfl H (fun H => ?_) (fun H => ?_)
      · refine wp_seq ?_
        refine lwp_list ?_
        refine ls_move (x := x0) (by kernel_rfl) (by kernel_rfl) ?_
        refine ls_p (d := some 16) (by kernel_rfl) (by kernel_rfl) (p_nil (by kernel_rfl) H) (fun x16 H => ?_)
        refine ls_p (d := some 17) (by kernel_rfl) (by kernel_rfl) (p_off Try.underlying72 rfl (fun w => ⟨_, Try.sizeOf4 w⟩) rfl (by kernel_rfl) H) (fun x17 H => ?_)
        refine ls_d (d := none) (by kernel_rfl) (by kernel_rfl) HA_2 (d_st Try.sizeOf4 (by kernel_rfl) (by kernel_rfl) H) (fun _ h_3 w_3 H HA_3 => ?_)
        refine ls_nil ?_
        refine then_normal ?_
        refine fr_eq (b := ⟨([x0, x1, undef, undef, (.bool false), undef, undef, x10, x0, x9, x10, x14, x0, x1, x14, x0, x16, x17, undef, undef, undef, undef, undef, undef, undef, undef, undef, undef, undef, undef, undef, undef, undef, undef, undef, undef, undef, undef, undef, undef, undef, undef, undef, undef, undef, undef, undef, undef, undef, undef] ++ [undef, undef, undef, undef, undef, undef, undef, undef, undef, undef, undef, undef, undef, undef, undef, undef, undef, undef]).toArray, []⟩) (by kernel_rfl) ?_
        refine wp_seq ?_
        refine lwp_list ?_
        refine ls_move (x := x0) (by kernel_rfl) (by kernel_rfl) ?_
        refine ls_d (d := some 19) (by kernel_rfl) (by kernel_rfl) HA_3 (d_call (by kernel_rfl) (by kernel_rfl) H) (fun x19 h_4 w_4 H HA_4 => ?_)
        refine ls_nil ?_
        refine then_normal ?_
        refine fr_eq (b := ⟨([x0, x1, undef, undef, (.bool false), undef, undef, x10, x0, x9, x10, x14, x0, x1, x14, x0, x16, x17, x0, x19, undef, undef, undef, undef, undef, undef, undef, undef, undef, undef, undef, undef, undef, undef, undef, undef, undef, undef, undef, undef, undef, undef, undef, undef, undef, undef, undef, undef, undef, undef] ++ [undef, undef, undef, undef, undef, undef, undef, undef, undef, undef, undef, undef, undef, undef, undef, undef, undef, undef]).toArray, []⟩) (by kernel_rfl) ?_
        refine wp_if rfl H (fun H => ?_) (fun H => ?_)
        · refine lwp_list ?_
          refine ls_move (x := x0) (by kernel_rfl) (by kernel_rfl) ?_
          refine ls_move (x := x0) (by kernel_rfl) (by kernel_rfl) ?_
          refine ls_p (d := some 22) (by kernel_rfl) (by kernel_rfl) (p_nil (by kernel_rfl) H) (fun x22 H => ?_)
          refine ls_p (d := some 23) (by kernel_rfl) (by kernel_rfl) (p_off Try.underlying72 rfl (fun w => ⟨_, Try.sizeOf30 w⟩) rfl (by kernel_rfl) H) (fun x23 H => ?_)
          refine ls_y (d := some 24) (by kernel_rfl) (by kernel_rfl) HA_4 (y_ld Try.isAgg30 (by kernel_rfl) H) (fun x24 H => ?_)
          refine ls_d (d := some 25) (by kernel_rfl) (by kernel_rfl) HA_4 (d_slit (zc := #[.int .u8 0]) Try.underlying30 Try.sizeOf5 (by decide) (.inr ⟨by decide, _, Try.zeroValue5, (by kernel_rfl)⟩) (by kernel_rfl) (by kernel_rfl) H) (fun x25 h_5 w_5 H HA_5 => ?_)
          refine ls_fr (b := ⟨([x0, x1, undef, undef, (.bool false), undef, undef, x10, x0, x9, x10, x14, x0, x1, x14, x0, x16, x17, x0, x19, x0, x0, x22, x23, x24, x25, undef, undef, undef, undef, undef, undef, undef, undef, undef, undef, undef, undef, undef, undef, undef, undef, undef, undef, undef, undef, undef, undef, undef, undef] ++ [undef, undef, undef, undef, undef, undef, undef, undef, undef, undef, undef, undef, undef, undef, undef, undef, undef, undef]).toArray, []⟩) (by kernel_rfl) ?_
          refine ls_d (d := some 26) (by kernel_rfl) (by kernel_rfl) HA_5 (d_app (z := #[.int .u8 0]) Try.underlying30 Try.underlying30 (.inl ⟨_, rfl⟩) Try.typeInfo5 (by kernel_rfl) Try.sizeOf5 Try.zeroValue5 (by kernel_rfl) (by kernel_rfl) (by kernel_rfl) H) (fun x26 h_6 w_6 H HA_6 => ?_)
          refine ls_p (d := some 27) (by kernel_rfl) (by kernel_rfl) (p_nil (by kernel_rfl) H) (fun x27 H => ?_)
          refine ls_p (d := some 28) (by kernel_rfl) (by kernel_rfl) (p_off Try.underlying72 rfl (fun w => ⟨_, Try.sizeOf30 w⟩) rfl (by kernel_rfl) H) (fun x28 H => ?_)
          refine ls_d (d := none) (by kernel_rfl) (by kernel_rfl) HA_6 (d_st Try.sizeOf30 (by kernel_rfl) (by kernel_rfl) H) (fun _ h_7 w_7 H HA_7 => ?_)
          refine ls_nil ?_
          refine block_normal ?_
          exact ⟨(fun i => ([(.bool false), undef, x10, x0, x9, x10, x14, x0, x1, x14, x0, x16, x17, x0, x19, x0, x0, x22, x23, x24, x25, x26, x27, x28, undef, undef, undef, undef, undef, undef, undef, undef, undef, undef, undef, undef, undef, undef, undef, undef, undef, undef, undef, undef, undef, undef, undef, undef, undef, undef] ++ [undef, undef, undef, undef, undef, undef, undef, undef, undef, undef, undef, undef, undef]).getD i undef), h_7, by kernel_rfl, HA_7, H⟩
        · refine wp_skip ?_
          refine block_normal ?_
          exact ⟨(fun i => ([(.bool false), undef, x10, x0, x9, x10, x14, x0, x1, x14, x0, x16, x17, x0, x19, undef, undef, undef, undef, undef, undef, undef, undef, undef, undef, undef, undef, undef, undef, undef, undef, undef, undef, undef, undef, undef, undef, undef, undef, undef, undef, undef, undef, undef, undef, undef, undef, undef, undef, undef] ++ [undef, undef, undef, undef, undef, undef, undef, undef, undef, undef, undef, undef, undef]).getD i undef), h_4, by kernel_rfl, HA_4, H⟩
      · refine wp_seq ?_
        refine lwp_list ?_
        refine ls_move (x := x0) (by kernel_rfl) (by kernel_rfl) ?_
        refine ls_move (x := x1) (by kernel_rfl) (by kernel_rfl) ?_
        refine ls_d (d := some 32) (by kernel_rfl) (by kernel_rfl) HA_2 (d_call (by kernel_rfl) (by kernel_rfl) H) (fun x32 h_8 w_8 H HA_8 => ?_)
        refine ls_assign (x := x32) (by kernel_rfl) (by kernel_rfl) ?_
        refine ls_nil ?_
        refine then_normal ?_
        refine fr_eq (b := ⟨([x0, x1, undef, undef, (.bool false), undef, undef, x10, x0, x9, x10, x14, x0, x1, x14, undef, undef, undef, undef, undef, undef, undef, undef, undef, undef, undef, undef, undef, undef, x32, x0, x1, x32, undef, undef, undef, undef, undef, undef, undef, undef, undef, undef, undef, undef, undef, undef, undef, undef, undef] ++ [undef, undef, undef, undef, undef, undef, undef, undef, undef, undef, undef, undef, undef, undef, undef, undef, undef, undef]).toArray, []⟩) (by kernel_rfl) ?_
        refine wp_if rfl H (fun H => ?_) (fun H => ?_)
        · refine wp_seq ?_
          refine lwp_list ?_
          refine ls_move (x := x0) (by kernel_rfl) (by kernel_rfl) ?_
          refine ls_d (d := some 34) (by kernel_rfl) (by kernel_rfl) HA_8 (d_call (by kernel_rfl) (by kernel_rfl) H) (fun x34 h_9 w_9 H HA_9 => ?_)
          refine ls_nil ?_
          refine then_normal ?_
          refine fr_eq (b := ⟨([x0, x1, undef, undef, (.bool false), undef, undef, x10, x0, x9, x10, x14, x0, x1, x14, undef, undef, undef, undef, undef, undef, undef, undef, undef, undef, undef, undef, undef, undef, x32, x0, x1, x32, x0, x34, undef, undef, undef, undef, undef, undef, undef, undef, undef, undef, undef, undef, undef, undef, undef] ++ [undef, undef, undef, undef, undef, undef, undef, undef, undef, undef, undef, undef, undef, undef, undef, undef, undef, undef]).toArray, []⟩) (by kernel_rfl) ?_
          refine lwp_list ?_
          refine ls_move (x := x0) (by kernel_rfl) (by kernel_rfl) ?_
          refine ls_d (d := some 36) (by kernel_rfl) (by kernel_rfl) HA_9 (d_call (by kernel_rfl) (by kernel_rfl) H) (fun x36 h_10 w_10 H HA_10 => ?_)
          refine ls_nil ?_
          refine block_normal ?_
          exact ⟨(fun i => ([(.bool false), undef, x10, x0, x9, x10, x14, x0, x1, x14, undef, undef, undef, undef, undef, undef, undef, undef, undef, undef, undef, undef, undef, undef, x32, x0, x1, x32, x0, x34, x0, x36, undef, undef, undef, undef, undef, undef, undef, undef, undef, undef, undef, undef, undef, undef, undef, undef, undef, undef] ++ [undef, undef, undef, undef, undef, undef, undef, undef, undef, undef, undef, undef, undef]).getD i undef), h_10, by kernel_rfl, HA_10, H⟩
        · refine wp_seq ?_
          refine lwp_list ?_
          refine ls_move (x := x0) (by kernel_rfl) (by kernel_rfl) ?_
          refine ls_move (x := x1) (by kernel_rfl) (by kernel_rfl) ?_
          refine ls_d (d := some 40) (by kernel_rfl) (by kernel_rfl) HA_8 (d_call (by kernel_rfl) (by kernel_rfl) H) (fun x40 h_11 w_11 H HA_11 => ?_)
          refine ls_assign (x := x40) (by kernel_rfl) (by kernel_rfl) ?_
          refine ls_nil ?_
          refine then_normal ?_
          refine fr_eq (b := ⟨([x0, x1, undef, undef, (.bool false), undef, undef, x10, x0, x9, x10, x14, x0, x1, x14, undef, undef, undef, undef, undef, undef, undef, undef, undef, undef, undef, undef, undef, undef, x32, x0, x1, x32, undef, undef, undef, undef, x40, x0, x1, x40, undef, undef, undef, undef, undef, undef, undef, undef, undef] ++ [undef, undef, undef, undef, undef, undef, undef, undef, undef, undef, undef, undef, undef, undef, undef, undef, undef, undef]).toArray, []⟩) (by kernel_rfl) ?_
          refine wp_if rfl H (fun H => ?_) (fun H => ?_)
          · refine wp_seq ?_
            refine lwp_list ?_
            refine ls_move (x := x0) (by kernel_rfl) (by kernel_rfl) ?_
            refine ls_move (x := x1) (by kernel_rfl) (by kernel_rfl) ?_
            refine ls_d (d := some 43) (by kernel_rfl) (by kernel_rfl) HA_11 (d_call (by kernel_rfl) (by kernel_rfl) H) (fun x43 h_12 w_12 H HA_12 => ?_)
            refine ls_nil ?_
            refine then_normal ?_
            refine fr_eq (b := ⟨([x0, x1, undef, undef, (.bool false), undef, undef, x10, x0, x9, x10, x14, x0, x1, x14, undef, undef, undef, undef, undef, undef, undef, undef, undef, undef, undef, undef, undef, undef, x32, x0, x1, x32, undef, undef, undef, undef, x40, x0, x1, x40, x0, x1, x43, undef, undef, undef, undef, undef, undef] ++ [undef, undef, undef, undef, undef, undef, undef, undef, undef, undef, undef, undef, undef, undef, undef, undef, undef, undef]).toArray, []⟩) (by kernel_rfl) ?_
            refine wp_seq ?_
            refine wp_seq ?_
            refine lwp_list ?_
            refine ls_move (x := x0) (by kernel_rfl) (by kernel_rfl) ?_
            refine ls_d (d := some 45) (by kernel_rfl) (by kernel_rfl) HA_12 (d_call (by kernel_rfl) (by kernel_rfl) H) (fun x45 h_13 w_13 H HA_13 => ?_)
            refine ls_nil ?_
            refine then_normal ?_
            refine fr_eq (b := ⟨([x0, x1, undef, undef, (.bool false), undef, undef, x10, x0, x9, x10, x14, x0, x1, x14, undef, undef, undef, undef, undef, undef, undef, undef, undef, undef, undef, undef, undef, undef, x32, x0, x1, x32, undef, undef, undef, undef, x40, x0, x1, x40, x0, x1, x43, x0, x45, undef, undef, undef, undef] ++ [undef, undef, undef, undef, undef, undef, undef, undef, undef, undef, undef, undef, undef, undef, undef, undef, undef, undef]).toArray, []⟩) (by kernel_rfl) ?_
            refine wp_join (fun a w => ∃ (D_1 : Nat → Value) (h_14 : Heap), a = ⟨([x0, x1, undef, undef, (.bool false), undef, undef, x10, x0, x9, x10, x14, x0, x1, x14, undef, undef, undef, undef, undef, undef, undef, undef, undef, undef, undef, undef, undef, undef, x32, x0, x1, x32, undef, undef, undef, undef, x40, x0, x1, x40, x0, x1, x43, x0, x45, (D_1 0), (D_1 1), (D_1 2), (D_1 3)] ++ [(D_1 4), (D_1 5), (D_1 6), (D_1 7), (D_1 8), undef, undef, undef, undef, undef, undef, undef, undef, undef, undef, undef, undef, undef]).toArray, []⟩ ∧ At w0 w h_14 ∧ ldisc_Disc_extended_j2 R x0 h_14) ?_ ?_
            · refine wp_if rfl H (fun H => ?_) (fun H => ?_)
              · refine lwp_list ?_
                refine ls_move (x := x0) (by kernel_rfl) (by kernel_rfl) ?_
                refine ls_move (x := x0) (by kernel_rfl) (by kernel_rfl) ?_
                refine ls_p (d := some 48) (by kernel_rfl) (by kernel_rfl) (p_nil (by kernel_rfl) H) (fun x48 H => ?_)
                refine ls_p (d := some 49) (by kernel_rfl) (by kernel_rfl) (p_off Try.underlying72 rfl (fun w => ⟨_, Try.sizeOf30 w⟩) rfl (by kernel_rfl) H) (fun x49 H => ?_)
                refine ls_y (d := some 50) (by kernel_rfl) (by kernel_rfl) HA_13 (y_ld Try.isAgg30 (by kernel_rfl) H) (fun x50 H => ?_)
                refine ls_d (d := some 51) (by kernel_rfl) (by kernel_rfl) HA_13 (d_slit (zc := #[.int .u8 0]) Try.underlying30 Try.sizeOf5 (by decide) (.inr ⟨by decide, _, Try.zeroValue5, (by kernel_rfl)⟩) (by kernel_rfl) (by kernel_rfl) H) (fun x51 h_17 w_17 H HA_17 => ?_)
                refine ls_fr (b := ⟨([x0, x1, undef, undef, (.bool false), undef, undef, x10, x0, x9, x10, x14, x0, x1, x14, undef, undef, undef, undef, undef, undef, undef, undef, undef, undef, undef, undef, undef, undef, x32, x0, x1, x32, undef, undef, undef, undef, x40, x0, x1, x40, x0, x1, x43, x0, x45, x0, x0, x48, x49] ++ [x50, x51, undef, undef, undef, undef, undef, undef, undef, undef, undef, undef, undef, undef, undef, undef, undef, undef]).toArray, []⟩) (by kernel_rfl) ?_
                refine ls_d (d := some 52) (by kernel_rfl) (by kernel_rfl) HA_17 (d_app (z := #[.int .u8 0]) Try.underlying30 Try.underlying30 (.inl ⟨_, rfl⟩) Try.typeInfo5 (by kernel_rfl) Try.sizeOf5 Try.zeroValue5 (by kernel_rfl) (by kernel_rfl) (by kernel_rfl) H) (fun x52 h_18 w_18 H HA_18 => ?_)
                refine ls_p (d := some 53) (by kernel_rfl) (by kernel_rfl) (p_nil (by kernel_rfl) H) (fun x53 H => ?_)
                refine ls_p (d := some 54) (by kernel_rfl) (by kernel_rfl) (p_off Try.underlying72 rfl (fun w => ⟨_, Try.sizeOf30 w⟩) rfl (by kernel_rfl) H) (fun x54 H => ?_)
                refine ls_d (d := none) (by kernel_rfl) (by kernel_rfl) HA_18 (d_st Try.sizeOf30 (by kernel_rfl) (by kernel_rfl) H) (fun _ h_19 w_19 H HA_19 => ?_)
                refine ls_nil ?_
                exact ⟨(fun i => ([x0, x0, x48, x49, x50, x51, x52, x53, x54]).getD i undef), h_19, by kernel_rfl, HA_19, H⟩
              · refine wp_skip ?_
                exact ⟨(fun i => ([undef, undef, undef, undef, undef, undef, undef, undef, undef]).getD i undef), h_13, by kernel_rfl, HA_13, H⟩
            · rintro _ w_14 ⟨D_1, h_14, rfl, HA_14, H⟩
              unfold ldisc_Disc_extended_j2 at H
              refine then_normal ?_
              refine fr_eq (b := ⟨([x0, x1, undef, undef, (.bool false), undef, undef, x10, x0, x9, x10, x14, x0, x1, x14, undef, undef, undef, undef, undef, undef, undef, undef, undef, undef, undef, undef, undef, undef, x32, x0, x1, x32, undef, undef, undef, undef, x40, x0, x1, x40, x0, x1, x43, x0, x45, (D_1 0), (D_1 1), (D_1 2), (D_1 3)] ++ [(D_1 4), (D_1 5), (D_1 6), (D_1 7), (D_1 8), undef, undef, undef, undef, undef, undef, undef, undef, undef, undef, undef, undef, undef]).toArray, []⟩) (by kernel_rfl) ?_
              refine wp_seq ?_
              refine lwp_list ?_
              refine ls_move (x := x0) (by kernel_rfl) (by kernel_rfl) ?_
              refine ls_p (d := some 56) (by kernel_rfl) (by kernel_rfl) (p_nil (by kernel_rfl) H) (fun x56 H => ?_)
              refine ls_p (d := some 57) (by kernel_rfl) (by kernel_rfl) (p_off Try.underlying72 rfl (fun w => ⟨_, Try.sizeOf30 w⟩) rfl (by kernel_rfl) H) (fun x57 H => ?_)
              refine ls_y (d := some 58) (by kernel_rfl) (by kernel_rfl) HA_14 (y_ld Try.isAgg30 (by kernel_rfl) H) (fun x58 H => ?_)
              refine ls_p (d := some 59) (by kernel_rfl) (by kernel_rfl) (p_len Try.underlying30 (by kernel_rfl) H) (fun x59 H => ?_)
              refine ls_move (x := (.int .i64 0)) (by kernel_rfl) (by kernel_rfl) ?_
              refine ls_nil ?_
              refine then_normal ?_
              refine fr_eq (b := ⟨([x0, x1, undef, undef, (.bool false), undef, undef, x10, x0, x9, x10, x14, x0, x1, x14, undef, undef, undef, undef, undef, undef, undef, undef, undef, undef, undef, undef, undef, undef, x32, x0, x1, x32, undef, undef, undef, undef, x40, x0, x1, x40, x0, x1, x43, x0, x45, (D_1 0), (D_1 1), (D_1 2), (D_1 3)] ++ [(D_1 4), (D_1 5), (D_1 6), (D_1 7), (D_1 8), x0, x56, x57, x58, x59, (.int .i64 0), undef, undef, undef, undef, undef, undef, undef]).toArray, []⟩) (by kernel_rfl) ?_
              refine wp_block ?_
              obtain ⟨I, m, H0, HB⟩ := H
              refine wp_loop (fun a w => ∃ (D_2 : Nat → Value) (x60 : Value) (h_15 : Heap), a = ⟨([x0, x1, undef, undef, (.bool false), undef, (D_2 0), x10, x0, x9, x10, x14, x0, x1, x14, undef, undef, undef, undef, undef, undef, undef, undef, undef, undef, undef, undef, undef, undef, x32, x0, x1, x32, undef, undef, undef, undef, x40, x0, x1, x40, x0, x1, x43, x0, x45, (D_1 0), (D_1 1), (D_1 2), (D_1 3)] ++ [(D_1 4), (D_1 5), (D_1 6), (D_1 7), (D_1 8), x0, x56, x57, x58, x59, x60, (D_2 1), (D_2 2), (D_2 3), (D_2 4), (D_2 5), (D_2 6), (D_2 7)]).toArray, []⟩ ∧ At w0 w h_15 ∧ I x60 h_15) (fun a w => m (a.tmps.getD 60 undef) w.heap) ?_ ?_
              · exact ⟨(fun i => ([undef, undef, undef, undef, undef, undef, undef, undef]).getD i undef), (.int .i64 0), h_14, by kernel_rfl, HA_14, H0⟩
              · rintro _ w_15 ⟨D_2, x60, h_15, rfl, HA_15, HI⟩
                have H : ldisc_Disc_extended_l3 R x0 x58 x59 (fun x60' h' => I x60' h' ∧ m x60' h' < m x60 h_15) x60 h_15 := HB x60 h_15 HI
                clear HB H0 HI
                unfold ldisc_Disc_extended_l3 at H
                refine wp_seq ?_
                refine lwp_list ?_
                refine ls_p (d := some 61) (by kernel_rfl) (by kernel_rfl) (p_sLt (by kernel_rfl) (by kernel_rfl) H) (fun x61 H => ?_)
                refine ls_nil ?_
                refine then_normal ?_
                refine fr_eq (b := ⟨([x0, x1, undef, undef, (.bool false), undef, (D_2 0), x10, x0, x9, x10, x14, x0, x1, x14, undef, undef, undef, undef, undef, undef, undef, undef, undef, undef, undef, undef, undef, undef, x32, x0, x1, x32, undef, undef, undef, undef, x40, x0, x1, x40, x0, x1, x43, x0, x45, (D_1 0), (D_1 1), (D_1 2), (D_1 3)] ++ [(D_1 4), (D_1 5), (D_1 6), (D_1 7), (D_1 8), x0, x56, x57, x58, x59, x60, x61, (D_2 2), (D_2 3), (D_2 4), (D_2 5), (D_2 6), (D_2 7)]).toArray, []⟩) (by kernel_rfl) ?_
                refine wp_seq ?_
                refine wp_if rfl H (fun H => ?_) (fun H => ?_)
                · refine wp_skip ?_
                  refine then_normal ?_
                  refine fr_eq (b := ⟨([x0, x1, undef, undef, (.bool false), undef, (D_2 0), x10, x0, x9, x10, x14, x0, x1, x14, undef, undef, undef, undef, undef, undef, undef, undef, undef, undef, undef, undef, undef, undef, x32, x0, x1, x32, undef, undef, undef, undef, x40, x0, x1, x40, x0, x1, x43, x0, x45, (D_1 0), (D_1 1), (D_1 2), (D_1 3)] ++ [(D_1 4), (D_1 5), (D_1 6), (D_1 7), (D_1 8), x0, x56, x57, x58, x59, x60, x61, (D_2 2), (D_2 3), (D_2 4), (D_2 5), (D_2 6), (D_2 7)]).toArray, []⟩) (by kernel_rfl) ?_
                  refine wp_seq ?_
                  refine wp_block ?_
                  refine wp_seq ?_
                  refine lwp_list ?_
                  refine ls_p (d := some 62) (by kernel_rfl) (by kernel_rfl) (p_ixs Try.underlying30 Try.sizeOf5 (by kernel_rfl) (by kernel_rfl) H) (fun x62 H => ?_)
                  refine ls_y (d := some 63) (by kernel_rfl) (by kernel_rfl) HA_15 (y_ld Try.isAgg5 (by kernel_rfl) H) (fun x63 H => ?_)
                  refine ls_assign (x := x63) (by kernel_rfl) (by kernel_rfl) ?_
                  refine ls_nil ?_
                  refine then_normal ?_
                  refine fr_eq (b := ⟨([x0, x1, undef, undef, (.bool false), undef, x63, x10, x0, x9, x10, x14, x0, x1, x14, undef, undef, undef, undef, undef, undef, undef, undef, undef, undef, undef, undef, undef, undef, x32, x0, x1, x32, undef, undef, undef, undef, x40, x0, x1, x40, x0, x1, x43, x0, x45, (D_1 0), (D_1 1), (D_1 2), (D_1 3)] ++ [(D_1 4), (D_1 5), (D_1 6), (D_1 7), (D_1 8), x0, x56, x57, x58, x59, x60, x61, x62, x63, (D_2 4), (D_2 5), (D_2 6), (D_2 7)]).toArray, []⟩) (by kernel_rfl) ?_
                  refine lwp_list ?_
                  refine ls_move (x := x0) (by kernel_rfl) (by kernel_rfl) ?_
                  refine ls_move (x := x63) (by kernel_rfl) (by kernel_rfl) ?_
                  refine ls_d (d := some 66) (by kernel_rfl) (by kernel_rfl) HA_15 (d_call (by kernel_rfl) (by kernel_rfl) H) (fun x66 h_16 w_16 H HA_16 => ?_)
                  refine ls_nil ?_
                  refine block_normal ?_
                  refine then_normal ?_
                  refine fr_eq (b := ⟨([x0, x1, undef, undef, (.bool false), undef, x63, x10, x0, x9, x10, x14, x0, x1, x14, undef, undef, undef, undef, undef, undef, undef, undef, undef, undef, undef, undef, undef, undef, x32, x0, x1, x32, undef, undef, undef, undef, x40, x0, x1, x40, x0, x1, x43, x0, x45, (D_1 0), (D_1 1), (D_1 2), (D_1 3)] ++ [(D_1 4), (D_1 5), (D_1 6), (D_1 7), (D_1 8), x0, x56, x57, x58, x59, x60, x61, x62, x63, x0, x63, x66, (D_2 7)]).toArray, []⟩) (by kernel_rfl) ?_
                  refine lwp_list ?_
                  refine ls_p (d := some 67) (by kernel_rfl) (by kernel_rfl) (p_add (by kernel_rfl) (by kernel_rfl) H) (fun x67 H => ?_)
                  refine ls_move (x := x67) (by kernel_rfl) (by kernel_rfl) ?_
                  refine ls_nil ?_
                  exact ⟨⟨(fun i => ([x63, x61, x62, x63, x0, x63, x66, x67]).getD i undef), x67, h_16, by kernel_rfl, HA_16, H.1⟩, loop_lt HA_16.heap HA_15.heap (by kernel_rfl) (by kernel_rfl) H.2⟩
                · refine wp_exit ?_
                  refine then_exit ?_
                  refine then_exit ?_
                  refine block_exit ?_
                  refine block_normal ?_
                  exact ⟨(fun i => ([(.bool false), (D_2 0), x10, x0, x9, x10, x14, x0, x1, x14, undef, undef, undef, undef, undef, undef, undef, undef, undef, undef, undef, undef, undef, undef, x32, x0, x1, x32, undef, undef, undef, undef, x40, x0, x1, x40, x0, x1, x43, x0, x45, (D_1 0), (D_1 1), (D_1 2), (D_1 3), (D_1 4), (D_1 5), (D_1 6), (D_1 7), (D_1 8)] ++ [x0, x56, x57, x58, x59, x60, x61, (D_2 2), (D_2 3), (D_2 4), (D_2 5), (D_2 6), (D_2 7)]).getD i undef), h_15, by kernel_rfl, HA_15, H⟩
          · refine wp_seq ?_
            refine lwp_list ?_
            refine ls_assign (x := (.bool false)) (by kernel_rfl) (by kernel_rfl) ?_
            refine ls_nil ?_
            refine then_normal ?_
            refine fr_eq (b := ⟨([x0, x1, undef, undef, (.bool false), undef, undef, x10, x0, x9, x10, x14, x0, x1, x14, undef, undef, undef, undef, undef, undef, undef, undef, undef, undef, undef, undef, undef, undef, x32, x0, x1, x32, undef, undef, undef, undef, x40, x0, x1, x40, undef, undef, undef, undef, undef, undef, undef, undef, undef] ++ [undef, undef, undef, undef, undef, undef, undef, undef, undef, undef, undef, undef, undef, undef, undef, undef, undef, undef]).toArray, []⟩) (by kernel_rfl) ?_
            refine wp_ret ?_
            refine block_ret ?_
            refine then_ret ?_
            refine then_ret ?_
            exact end1 (Try.results79) (by kernel_rfl) (by kernel_rfl) HA_11 H _ (.inr rfl)
  · rintro _ w ⟨D, h, rfl, HA, H⟩
    unfold ldisc_Disc_extended_j1 at H
    refine then_normal ?_
    refine fr_eq (b := ⟨([x0, x1, undef, undef, (D 0), undef, (D 1), (D 2), (D 3), (D 4), (D 5), (D 6), (D 7), (D 8), (D 9), (D 10), (D 11), (D 12), (D 13), (D 14), (D 15), (D 16), (D 17), (D 18), (D 19), (D 20), (D 21), (D 22), (D 23), (D 24), (D 25), (D 26), (D 27), (D 28), (D 29), (D 30), (D 31), (D 32), (D 33), (D 34), (D 35), (D 36), (D 37), (D 38), (D 39), (D 40), (D 41), (D 42), (D 43), (D 44)] ++ [(D 45), (D 46), (D 47), (D 48), (D 49), (D 50), (D 51), (D 52), (D 53), (D 54), (D 55), (D 56), (D 57), (D 58), (D 59), (D 60), (D 61), (D 62)]).toArray, []⟩) (by kernel_rfl) ?_
    refine wp_seq ?_
    refine lwp_list ?_
    refine ls_assign (x := (.bool true)) (by kernel_rfl) (by kernel_rfl) ?_
    refine ls_nil ?_
    refine then_normal ?_
    refine fr_eq (b := ⟨([x0, x1, undef, undef, (.bool true), undef, (D 1), (D 2), (D 3), (D 4), (D 5), (D 6), (D 7), (D 8), (D 9), (D 10), (D 11), (D 12), (D 13), (D 14), (D 15), (D 16), (D 17), (D 18), (D 19), (D 20), (D 21), (D 22), (D 23), (D 24), (D 25), (D 26), (D 27), (D 28), (D 29), (D 30), (D 31), (D 32), (D 33), (D 34), (D 35), (D 36), (D 37), (D 38), (D 39), (D 40), (D 41), (D 42), (D 43), (D 44)] ++ [(D 45), (D 46), (D 47), (D 48), (D 49), (D 50), (D 51), (D 52), (D 53), (D 54), (D 55), (D 56), (D 57), (D 58), (D 59), (D 60), (D 61), (D 62)]).toArray, []⟩) (by kernel_rfl) ?_
    refine wp_ret ?_
    exact end1 (Try.results79) (by kernel_rfl) (by kernel_rfl) HA H _ (.inr rfl)

end Go.Proofs.Ytlcklnbgknhhkaa

end

section
/- The shallow reading of one function, and that the function does it. Written by a program. -/
set_option linter.unusedVariables false
namespace Go.Proofs.Ytlcklnbgknhhkaa
open Go Go.HW

def ldisc_Disc_extended_1_S (x0 : Value) (h : Heap) (R : Value → Heap → Prop) : Prop :=
  ldisc_isBlank_c x0 h fun x4 h => 
  sNot x4 fun x5 =>
  R x5 h
set_option maxRecDepth 100000 in
theorem ldisc_Disc_extended_1_runs {x0 : Value} {h : Heap} {R : Value → Heap → Prop} (H : ldisc_Disc_extended_1_S x0 h R) : ldisc_Disc_extended_1_c x0 h R := by
  unfold ldisc_Disc_extended_1_S at H
  refine runs_of (b := ⟨#[x0, undef, undef, undef, undef, undef], []⟩) Try.call87 Try.func87 rfl (by kernel_rfl) (fun w0 HA => ?_)
  refine wp_seq ?_
  refine lwp_list ?_
  refine ls_assign (x := (.bool false)) (by kernel_rfl) (by kernel_rfl) ?_
  refine ls_nil ?_
  refine then_normal ?_
  refine fr_eq (b := ⟨#[x0, undef, (.bool false), undef, undef, undef], []⟩) (by kernel_rfl) ?_
  refine wp_seq ?_
  refine lwp_list ?_
  refine ls_move (x := x0) (by kernel_rfl) (by kernel_rfl) ?_
  refine ls_d (d := some 4) (by kernel_rfl) (by kernel_rfl) HA (d_call (by kernel_rfl) (by kernel_rfl) H) (fun x4 h w H HA => ?_)
  refine ls_p (d := some 5) (by kernel_rfl) (by kernel_rfl) (p_not (by kernel_rfl) H) (fun x5 H => ?_)
  refine ls_assign (x := x5) (by kernel_rfl) (by kernel_rfl) ?_
  refine ls_nil ?_
  refine then_normal ?_
  refine fr_eq (b := ⟨#[x0, undef, x5, x0, x4, x5], []⟩) (by kernel_rfl) ?_
  refine wp_ret ?_
  exact end1 (Try.results87) (by kernel_rfl) (by kernel_rfl) HA H _ (.inr rfl)

end Go.Proofs.Ytlcklnbgknhhkaa

end
