/- The shallow reading of one function, and that the function does it. Written by a program. -/
import Derived.Test.YtlcklnbgknhhkaaFnC
set_option linter.unusedVariables false
namespace Go.Proofs.Ytlcklnbgknhhkaa
open Go Go.HW

def ldisc_Disc_extended_j1 (R : Value → Heap → Prop) (h : Heap) : Prop :=
  R (.bool true) h
def ldisc_Disc_extended_l3 (R : Value → Heap → Prop) (x0 x58 x59 : Value) (next : Value → Heap → Prop) (x60 : Value) (h_15 : Heap) : Prop :=
  sLt x60 x59 fun x61 =>
  sIf x61 (sIxS x58 x60 1 fun x62 =>
  sLd h_15 x62 fun x63 =>
  ldisc_Disc_show_c x0 x63 h_15 fun x66 h_16 => 
  sAdd .i64 x60 (.int .i64 1) fun x67 =>
  next x67 h_16) (ldisc_Disc_extended_j1 R h_15)
def ldisc_Disc_extended_j2 (R : Value → Heap → Prop) (x0 : Value) (h_14 : Heap) : Prop :=
  sNil x0 fun x56 =>
  sOff x56 17 fun x57 =>
  sLd h_14 x57 fun x58 =>
  sLen x58 fun x59 =>
  sLoop (S := Value) (fun nxt s h => ldisc_Disc_extended_l3 R x0 x58 x59 (fun x60' h => nxt x60' h) s h) (.int .i64 0) h_14
def ldisc_Disc_extended_S (x0 x1 : Value) (h : Heap) (R : Value → Heap → Prop) : Prop :=
  ldisc_Disc_local_c x0 (.int .i64 512) h fun x9 h_1 => 
  sNot x9 fun x10 =>
  sIf x10 (R (.bool false) h_1) (ldisc_Disc_is_c x0 (.int .i64 9) x1 h_1 fun x14 h_2 => 
  sIf x14 (sNil x0 fun x16 =>
  sOff x16 21 fun x17 =>
  sSt h_2 x17 (.bool true) fun h_3 => 
  ldisc_Disc_local_c x0 (.int .i64 2) h_3 fun x19 h_4 => 
  sIf x19 (sNil x0 fun x22 =>
  sOff x22 22 fun x23 =>
  sLd h_4 x23 fun x24 =>
  sSlit h_4 #[.int .u8 0, .int .u8 0] [(0, 1, (.int .u8 94)), (1, 1, (.int .u8 8))] 5 2 fun x25 h_5 => 
  sApp h_5 x24 x25 #[.int .u8 0] 5 1 fun x26 h_6 => 
  sNil x0 fun x27 =>
  sOff x27 22 fun x28 =>
  sSt h_6 x28 x26 fun h_7 => 
  ldisc_Disc_extended_j1 R h_7) (ldisc_Disc_extended_j1 R h_4)) (ldisc_Disc_is_c x0 (.int .i64 7) x1 h_2 fun x32 h_8 => 
  sIf x32 (ldisc_Disc_backWhile_c x0 (.func (.func 86) #[] #[]) h_8 fun x34 h_9 => 
  ldisc_Disc_backWhile_c x0 (.func (.func 87) #[] #[]) h_9 fun x36 h_10 => 
  ldisc_Disc_extended_j1 R h_10) (ldisc_Disc_is_c x0 (.int .i64 8) x1 h_8 fun x40 h_11 => 
  sIf x40 (ldisc_Disc_show_c x0 x1 h_11 fun x43 h_12 => 
  ldisc_Disc_local_c x0 (.int .i64 2) h_12 fun x45 h_13 => 
  sIf x45 (sNil x0 fun x48 =>
  sOff x48 22 fun x49 =>
  sLd h_13 x49 fun x50 =>
  sSlit h_13 #[.int .u8 0] [(0, 1, (.int .u8 10))] 5 1 fun x51 h_17 => 
  sApp h_17 x50 x51 #[.int .u8 0] 5 1 fun x52 h_18 => 
  sNil x0 fun x53 =>
  sOff x53 22 fun x54 =>
  sSt h_18 x54 x52 fun h_19 => 
  ldisc_Disc_extended_j2 R x0 h_19) (ldisc_Disc_extended_j2 R x0 h_13)) (R (.bool false) h_11))))
set_option maxRecDepth 100000 in
theorem ldisc_Disc_extended_runs {x0 x1 : Value} {h : Heap} {R : Value → Heap → Prop} (H : ldisc_Disc_extended_S x0 x1 h R) : ldisc_Disc_extended_c x0 x1 h R := by
  unfold ldisc_Disc_extended_S at H
  refine runs_of (b := ⟨([x0, x1, undef, undef, undef, undef, undef, undef, undef, undef, undef, undef, undef, undef, undef, undef, undef, undef, undef, undef, undef, undef, undef, undef, undef, undef, undef, undef, undef, undef, undef, undef, undef, undef, undef, undef, undef, undef, undef, undef, undef, undef, undef, undef, undef, undef, undef, undef, undef, undef] ++ [undef, undef, undef, undef, undef, undef, undef, undef, undef, undef, undef, undef, undef, undef, undef, undef, undef, undef]).toArray, []⟩) Try.call79 Try.func79 rfl (by kernel_rfl) (fun w0 HA => ?_)
  refine wp_seq ?_
  refine lwp_list ?_
  refine ls_assign (x := (.bool false)) (by kernel_rfl) (by kernel_rfl) ?_
  refine ls_nil ?_
  refine then_normal ?_
  refine fr_eq (b := ⟨([x0, x1, undef, undef, (.bool false), undef, undef, undef, undef, undef, undef, undef, undef, undef, undef, undef, undef, undef, undef, undef, undef, undef, undef, undef, undef, undef, undef, undef, undef, undef, undef, undef, undef, undef, undef, undef, undef, undef, undef, undef, undef, undef, undef, undef, undef, undef, undef, undef, undef, undef] ++ [undef, undef, undef, undef, undef, undef, undef, undef, undef, undef, undef, undef, undef, undef, undef, undef, undef, undef]).toArray, []⟩) (by kernel_rfl) ?_
  refine wp_seq ?_
  refine wp_join (fun a w => ∃ (D : Nat → Value) (h : Heap), a = ⟨([x0, x1, undef, undef, (D 0), undef, (D 1), (D 2), (D 3), (D 4), (D 5), (D 6), (D 7), (D 8), (D 9), (D 10), (D 11), (D 12), (D 13), (D 14), (D 15), (D 16), (D 17), (D 18), (D 19), (D 20), (D 21), (D 22), (D 23), (D 24), (D 25), (D 26), (D 27), (D 28), (D 29), (D 30), (D 31), (D 32), (D 33), (D 34), (D 35), (D 36), (D 37), (D 38), (D 39), (D 40), (D 41), (D 42), (D 43), (D 44)] ++ [(D 45), (D 46), (D 47), (D 48), (D 49), (D 50), (D 51), (D 52), (D 53), (D 54), (D 55), (D 56), (D 57), (D 58), (D 59), (D 60), (D 61), (D 62)]).toArray, []⟩ ∧ At w0 w h ∧ ldisc_Disc_extended_j1 R h) ?_ ?_
  · refine wp_block ?_
    refine wp_seq ?_
    refine lwp_list ?_
    refine ls_move (x := x0) (by kernel_rfl) (by kernel_rfl) ?_
    refine ls_d (d := some 9) (by kernel_rfl) (by kernel_rfl) HA (d_call (by kernel_rfl) (by kernel_rfl) H) (fun x9 h_1 w_1 H HA_1 => ?_)
    refine ls_p (d := some 10) (by kernel_rfl) (by kernel_rfl) (p_not (by kernel_rfl) H) (fun x10 H => ?_)
    refine ls_assign (x := x10) (by kernel_rfl) (by kernel_rfl) ?_
    refine ls_nil ?_
    refine then_normal ?_
    refine fr_eq (b := ⟨([x0, x1, undef, undef, (.bool false), undef, undef, x10, x0, x9, x10, undef, undef, undef, undef, undef, undef, undef, undef, undef, undef, undef, undef, undef, undef, undef, undef, undef, undef, undef, undef, undef, undef, undef, undef, undef, undef, undef, undef, undef, undef, undef, undef, undef, undef, undef, undef, undef, undef, undef] ++ [undef, undef, undef, undef, undef, undef, undef, undef, undef, undef, undef, undef, undef, undef, undef, undef, undef, undef]).toArray, []⟩) (by kernel_rfl) ?_
    refine wp_if rfl H (fun H => ?_) (fun H => ?_)
    · refine wp_seq ?_
      refine lwp_list ?_
      refine ls_assign (x := (.bool false)) (by kernel_rfl) (by kernel_rfl) ?_
      refine ls_nil ?_
      refine then_normal ?_
      refine fr_eq (b := ⟨([x0, x1, undef, undef, (.bool false), undef, undef, x10, x0, x9, x10, undef, undef, undef, undef, undef, undef, undef, undef, undef, undef, undef, undef, undef, undef, undef, undef, undef, undef, undef, undef, undef, undef, undef, undef, undef, undef, undef, undef, undef, undef, undef, undef, undef, undef, undef, undef, undef, undef, undef] ++ [undef, undef, undef, undef, undef, undef, undef, undef, undef, undef, undef, undef, undef, undef, undef, undef, undef, undef]).toArray, []⟩) (by kernel_rfl) ?_
      refine wp_ret ?_
      refine block_ret ?_
      refine then_ret ?_
      refine then_ret ?_
      exact end1 (Try.results79) (by kernel_rfl) (by kernel_rfl) HA_1 H _ (.inr rfl)
    · refine wp_seq ?_
      refine lwp_list ?_
      refine ls_move (x := x0) (by kernel_rfl) (by kernel_rfl) ?_
      refine ls_move (x := x1) (by kernel_rfl) (by kernel_rfl) ?_
      refine ls_d (d := some 14) (by kernel_rfl) (by kernel_rfl) HA_1 (d_call (by kernel_rfl) (by kernel_rfl) H) (fun x14 h_2 w_2 H HA_2 => ?_)
      refine ls_assign (x := x14) (by kernel_rfl) (by kernel_rfl) ?_
      refine ls_nil ?_
      refine then_normal ?_
      refine fr_eq (b := ⟨([x0, x1, undef, undef, (.bool false), undef, undef, x10, x0, x9, x10, x14, x0, x1, x14, undef, undef, undef, undef, undef, undef, undef, undef, undef, undef, undef, undef, undef, undef, undef, undef, undef, undef, undef, undef, undef, undef, undef, undef, undef, undef, undef, undef, undef, undef, undef, undef, undef, undef, undef] ++ [undef, undef, undef, undef, undef, undef, undef, undef, undef, undef, undef, undef, undef, undef, undef, undef, undef, undef]).toArray, []⟩) (by kernel_rfl) ?_
      refine wp_if rfl H (fun H => ?_) (fun H => ?_)
      · refine wp_seq ?_
        refine lwp_list ?_
        refine ls_move (x := x0) (by kernel_rfl) (by kernel_rfl) ?_
        refine ls_p (d := some 16) (by kernel_rfl) (by kernel_rfl) (p_nil (by kernel_rfl) H) (fun x16 H => ?_)
        refine ls_p (d := some 17) (by kernel_rfl) (by kernel_rfl) (p_off Try.underlying72 rfl (fun w => ⟨_, Try.sizeOf4 w⟩) rfl (by kernel_rfl) H) (fun x17 H => ?_)
        refine ls_d (d := none) (by kernel_rfl) (by kernel_rfl) HA_2 (d_st Try.sizeOf4 (by kernel_rfl) (by kernel_rfl) H) (fun _ h_3 w_3 H HA_3 => ?_)
        refine ls_nil ?_
        refine then_normal ?_
        refine fr_eq (b := ⟨([x0, x1, undef, undef, (.bool false), undef, undef, x10, x0, x9, x10, x14, x0, x1, x14, x0, x16, x17, undef, undef, undef, undef, undef, undef, undef, undef, undef, undef, undef, undef, undef, undef, undef, undef, undef, undef, undef, undef, undef, undef, undef, undef, undef, undef, undef, undef, undef, undef, undef, undef] ++ [undef, undef, undef, undef, undef, undef, undef, undef, undef, undef, undef, undef, undef, undef, undef, undef, undef, undef]).toArray, []⟩) (by kernel_rfl) ?_
        refine wp_seq ?_
        refine lwp_list ?_
        refine ls_move (x := x0) (by kernel_rfl) (by kernel_rfl) ?_
        refine ls_d (d := some 19) (by kernel_rfl) (by kernel_rfl) HA_3 (d_call (by kernel_rfl) (by kernel_rfl) H) (fun x19 h_4 w_4 H HA_4 => ?_)
        refine ls_nil ?_
        refine then_normal ?_
        refine fr_eq (b := ⟨([x0, x1, undef, undef, (.bool false), undef, undef, x10, x0, x9, x10, x14, x0, x1, x14, x0, x16, x17, x0, x19, undef, undef, undef, undef, undef, undef, undef, undef, undef, undef, undef, undef, undef, undef, undef, undef, undef, undef, undef, undef, undef, undef, undef, undef, undef, undef, undef, undef, undef, undef] ++ [undef, undef, undef, undef, undef, undef, undef, undef, undef, undef, undef, undef, undef, undef, undef, undef, undef, undef]).toArray, []⟩) (by kernel_rfl) ?_
        refine wp_if rfl H (fun H => ?_) (fun H => ?_)
        · refine lwp_list ?_
          refine ls_move (x := x0) (by kernel_rfl) (by kernel_rfl) ?_
          refine ls_move (x := x0) (by kernel_rfl) (by kernel_rfl) ?_
          refine ls_p (d := some 22) (by kernel_rfl) (by kernel_rfl) (p_nil (by kernel_rfl) H) (fun x22 H => ?_)
          refine ls_p (d := some 23) (by kernel_rfl) (by kernel_rfl) (p_off Try.underlying72 rfl (fun w => ⟨_, Try.sizeOf30 w⟩) rfl (by kernel_rfl) H) (fun x23 H => ?_)
          refine ls_y (d := some 24) (by kernel_rfl) (by kernel_rfl) HA_4 (y_ld Try.isAgg30 (by kernel_rfl) H) (fun x24 H => ?_)
          refine ls_d (d := some 25) (by kernel_rfl) (by kernel_rfl) HA_4 (d_slit (zc := #[.int .u8 0]) Try.underlying30 Try.sizeOf5 (by decide) (.inr ⟨by decide, _, Try.zeroValue5, (by kernel_rfl)⟩) (by kernel_rfl) (by kernel_rfl) H) (fun x25 h_5 w_5 H HA_5 => ?_)
          refine ls_fr (b := ⟨([x0, x1, undef, undef, (.bool false), undef, undef, x10, x0, x9, x10, x14, x0, x1, x14, x0, x16, x17, x0, x19, x0, x0, x22, x23, x24, x25, undef, undef, undef, undef, undef, undef, undef, undef, undef, undef, undef, undef, undef, undef, undef, undef, undef, undef, undef, undef, undef, undef, undef, undef] ++ [undef, undef, undef, undef, undef, undef, undef, undef, undef, undef, undef, undef, undef, undef, undef, undef, undef, undef]).toArray, []⟩) (by kernel_rfl) ?_
          refine ls_d (d := some 26) (by kernel_rfl) (by kernel_rfl) HA_5 (d_app (z := #[.int .u8 0]) Try.underlying30 Try.underlying30 (.inl ⟨_, rfl⟩) Try.typeInfo5 (by kernel_rfl) Try.sizeOf5 Try.zeroValue5 (by kernel_rfl) (by kernel_rfl) (by kernel_rfl) H) (fun x26 h_6 w_6 H HA_6 => ?_)
          refine ls_p (d := some 27) (by kernel_rfl) (by kernel_rfl) (p_nil (by kernel_rfl) H) (fun x27 H => ?_)
          refine ls_p (d := some 28) (by kernel_rfl) (by kernel_rfl) (p_off Try.underlying72 rfl (fun w => ⟨_, Try.sizeOf30 w⟩) rfl (by kernel_rfl) H) (fun x28 H => ?_)
          refine ls_d (d := none) (by kernel_rfl) (by kernel_rfl) HA_6 (d_st Try.sizeOf30 (by kernel_rfl) (by kernel_rfl) H) (fun _ h_7 w_7 H HA_7 => ?_)
          refine ls_nil ?_
          refine block_normal ?_
          exact ⟨(fun i => ([(.bool false), undef, x10, x0, x9, x10, x14, x0, x1, x14, x0, x16, x17, x0, x19, x0, x0, x22, x23, x24, x25, x26, x27, x28, undef, undef, undef, undef, undef, undef, undef, undef, undef, undef, undef, undef, undef, undef, undef, undef, undef, undef, undef, undef, undef, undef, undef, undef, undef, undef] ++ [undef, undef, undef, undef, undef, undef, undef, undef, undef, undef, undef, undef, undef]).getD i undef), h_7, by kernel_rfl, HA_7, H⟩
        · refine wp_skip ?_
          refine block_normal ?_
          exact ⟨(fun i => ([(.bool false), undef, x10, x0, x9, x10, x14, x0, x1, x14, x0, x16, x17, x0, x19, undef, undef, undef, undef, undef, undef, undef, undef, undef, undef, undef, undef, undef, undef, undef, undef, undef, undef, undef, undef, undef, undef, undef, undef, undef, undef, undef, undef, undef, undef, undef, undef, undef, undef, undef] ++ [undef, undef, undef, undef, undef, undef, undef, undef, undef, undef, undef, undef, undef]).getD i undef), h_4, by kernel_rfl, HA_4, H⟩
      · refine wp_seq ?_
        refine lwp_list ?_
        refine ls_move (x := x0) (by kernel_rfl) (by kernel_rfl) ?_
        refine ls_move (x := x1) (by kernel_rfl) (by kernel_rfl) ?_
        refine ls_d (d := some 32) (by kernel_rfl) (by kernel_rfl) HA_2 (d_call (by kernel_rfl) (by kernel_rfl) H) (fun x32 h_8 w_8 H HA_8 => ?_)
        refine ls_assign (x := x32) (by kernel_rfl) (by kernel_rfl) ?_
        refine ls_nil ?_
        refine then_normal ?_
        refine fr_eq (b := ⟨([x0, x1, undef, undef, (.bool false), undef, undef, x10, x0, x9, x10, x14, x0, x1, x14, undef, undef, undef, undef, undef, undef, undef, undef, undef, undef, undef, undef, undef, undef, x32, x0, x1, x32, undef, undef, undef, undef, undef, undef, undef, undef, undef, undef, undef, undef, undef, undef, undef, undef, undef] ++ [undef, undef, undef, undef, undef, undef, undef, undef, undef, undef, undef, undef, undef, undef, undef, undef, undef, undef]).toArray, []⟩) (by kernel_rfl) ?_
        refine wp_if rfl H (fun H => ?_) (fun H => ?_)
        · refine wp_seq ?_
          refine lwp_list ?_
          refine ls_move (x := x0) (by kernel_rfl) (by kernel_rfl) ?_
          refine ls_d (d := some 34) (by kernel_rfl) (by kernel_rfl) HA_8 (d_call (by kernel_rfl) (by kernel_rfl) H) (fun x34 h_9 w_9 H HA_9 => ?_)
          refine ls_nil ?_
          refine then_normal ?_
          refine fr_eq (b := ⟨([x0, x1, undef, undef, (.bool false), undef, undef, x10, x0, x9, x10, x14, x0, x1, x14, undef, undef, undef, undef, undef, undef, undef, undef, undef, undef, undef, undef, undef, undef, x32, x0, x1, x32, x0, x34, undef, undef, undef, undef, undef, undef, undef, undef, undef, undef, undef, undef, undef, undef, undef] ++ [undef, undef, undef, undef, undef, undef, undef, undef, undef, undef, undef, undef, undef, undef, undef, undef, undef, undef]).toArray, []⟩) (by kernel_rfl) ?_
          refine lwp_list ?_
          refine ls_move (x := x0) (by kernel_rfl) (by kernel_rfl) ?_
          refine ls_d (d := some 36) (by kernel_rfl) (by kernel_rfl) HA_9 (d_call (by kernel_rfl) (by kernel_rfl) H) (fun x36 h_10 w_10 H HA_10 => ?_)
          refine ls_nil ?_
          refine block_normal ?_
          exact ⟨(fun i => ([(.bool false), undef, x10, x0, x9, x10, x14, x0, x1, x14, undef, undef, undef, undef, undef, undef, undef, undef, undef, undef, undef, undef, undef, undef, x32, x0, x1, x32, x0, x34, x0, x36, undef, undef, undef, undef, undef, undef, undef, undef, undef, undef, undef, undef, undef, undef, undef, undef, undef, undef] ++ [undef, undef, undef, undef, undef, undef, undef, undef, undef, undef, undef, undef, undef]).getD i undef), h_10, by kernel_rfl, HA_10, H⟩
        · refine wp_seq ?_
          refine lwp_list ?_
          refine ls_move (x := x0) (by kernel_rfl) (by kernel_rfl) ?_
          refine ls_move (x := x1) (by kernel_rfl) (by kernel_rfl) ?_
          refine ls_d (d := some 40) (by kernel_rfl) (by kernel_rfl) HA_8 (d_call (by kernel_rfl) (by kernel_rfl) H) (fun x40 h_11 w_11 H HA_11 => ?_)
          refine ls_assign (x := x40) (by kernel_rfl) (by kernel_rfl) ?_
          refine ls_nil ?_
          refine then_normal ?_
          refine fr_eq (b := ⟨([x0, x1, undef, undef, (.bool false), undef, undef, x10, x0, x9, x10, x14, x0, x1, x14, undef, undef, undef, undef, undef, undef, undef, undef, undef, undef, undef, undef, undef, undef, x32, x0, x1, x32, undef, undef, undef, undef, x40, x0, x1, x40, undef, undef, undef, undef, undef, undef, undef, undef, undef] ++ [undef, undef, undef, undef, undef, undef, undef, undef, undef, undef, undef, undef, undef, undef, undef, undef, undef, undef]).toArray, []⟩) (by kernel_rfl) ?_
          refine wp_if rfl H (fun H => ?_) (fun H => ?_)
          · refine wp_seq ?_
            refine lwp_list ?_
            refine ls_move (x := x0) (by kernel_rfl) (by kernel_rfl) ?_
            refine ls_move (x := x1) (by kernel_rfl) (by kernel_rfl) ?_
            refine ls_d (d := some 43) (by kernel_rfl) (by kernel_rfl) HA_11 (d_call (by kernel_rfl) (by kernel_rfl) H) (fun x43 h_12 w_12 H HA_12 => ?_)
            refine ls_nil ?_
            refine then_normal ?_
            refine fr_eq (b := ⟨([x0, x1, undef, undef, (.bool false), undef, undef, x10, x0, x9, x10, x14, x0, x1, x14, undef, undef, undef, undef, undef, undef, undef, undef, undef, undef, undef, undef, undef, undef, x32, x0, x1, x32, undef, undef, undef, undef, x40, x0, x1, x40, x0, x1, x43, undef, undef, undef, undef, undef, undef] ++ [undef, undef, undef, undef, undef, undef, undef, undef, undef, undef, undef, undef, undef, undef, undef, undef, undef, undef]).toArray, []⟩) (by kernel_rfl) ?_
            refine wp_seq ?_
            refine wp_seq ?_
            refine lwp_list ?_
            refine ls_move (x := x0) (by kernel_rfl) (by kernel_rfl) ?_
            refine ls_d (d := some 45) (by kernel_rfl) (by kernel_rfl) HA_12 (d_call (by kernel_rfl) (by kernel_rfl) H) (fun x45 h_13 w_13 H HA_13 => ?_)
            refine ls_nil ?_
            refine then_normal ?_
            refine fr_eq (b := ⟨([x0, x1, undef, undef, (.bool false), undef, undef, x10, x0, x9, x10, x14, x0, x1, x14, undef, undef, undef, undef, undef, undef, undef, undef, undef, undef, undef, undef, undef, undef, x32, x0, x1, x32, undef, undef, undef, undef, x40, x0, x1, x40, x0, x1, x43, x0, x45, undef, undef, undef, undef] ++ [undef, undef, undef, undef, undef, undef, undef, undef, undef, undef, undef, undef, undef, undef, undef, undef, undef, undef]).toArray, []⟩) (by kernel_rfl) ?_
            refine wp_join (fun a w => ∃ (D_1 : Nat → Value) (h_14 : Heap), a = ⟨([x0, x1, undef, undef, (.bool false), undef, undef, x10, x0, x9, x10, x14, x0, x1, x14, undef, undef, undef, undef, undef, undef, undef, undef, undef, undef, undef, undef, undef, undef, x32, x0, x1, x32, undef, undef, undef, undef, x40, x0, x1, x40, x0, x1, x43, x0, x45, (D_1 0), (D_1 1), (D_1 2), (D_1 3)] ++ [(D_1 4), (D_1 5), (D_1 6), (D_1 7), (D_1 8), undef, undef, undef, undef, undef, undef, undef, undef, undef, undef, undef, undef, undef]).toArray, []⟩ ∧ At w0 w h_14 ∧ ldisc_Disc_extended_j2 R x0 h_14) ?_ ?_
            · refine wp_if rfl H (fun H => ?_) (fun H => ?_)
              · refine lwp_list ?_
                refine ls_move (x := x0) (by kernel_rfl) (by kernel_rfl) ?_
                refine ls_move (x := x0) (by kernel_rfl) (by kernel_rfl) ?_
                refine ls_p (d := some 48) (by kernel_rfl) (by kernel_rfl) (p_nil (by kernel_rfl) H) (fun x48 H => ?_)
                refine ls_p (d := some 49) (by kernel_rfl) (by kernel_rfl) (p_off Try.underlying72 rfl (fun w => ⟨_, Try.sizeOf30 w⟩) rfl (by kernel_rfl) H) (fun x49 H => ?_)
                refine ls_y (d := some 50) (by kernel_rfl) (by kernel_rfl) HA_13 (y_ld Try.isAgg30 (by kernel_rfl) H) (fun x50 H => ?_)
                refine ls_d (d := some 51) (by kernel_rfl) (by kernel_rfl) HA_13 (d_slit (zc := #[.int .u8 0]) Try.underlying30 Try.sizeOf5 (by decide) (.inr ⟨by decide, _, Try.zeroValue5, (by kernel_rfl)⟩) (by kernel_rfl) (by kernel_rfl) H) (fun x51 h_17 w_17 H HA_17 => ?_)
                refine ls_fr (b := ⟨([x0, x1, undef, undef, (.bool false), undef, undef, x10, x0, x9, x10, x14, x0, x1, x14, undef, undef, undef, undef, undef, undef, undef, undef, undef, undef, undef, undef, undef, undef, x32, x0, x1, x32, undef, undef, undef, undef, x40, x0, x1, x40, x0, x1, x43, x0, x45, x0, x0, x48, x49] ++ [x50, x51, undef, undef, undef, undef, undef, undef, undef, undef, undef, undef, undef, undef, undef, undef, undef, undef]).toArray, []⟩) (by kernel_rfl) ?_
                refine ls_d (d := some 52) (by kernel_rfl) (by kernel_rfl) HA_17 (d_app (z := #[.int .u8 0]) Try.underlying30 Try.underlying30 (.inl ⟨_, rfl⟩) Try.typeInfo5 (by kernel_rfl) Try.sizeOf5 Try.zeroValue5 (by kernel_rfl) (by kernel_rfl) (by kernel_rfl) H) (fun x52 h_18 w_18 H HA_18 => ?_)
                refine ls_p (d := some 53) (by kernel_rfl) (by kernel_rfl) (p_nil (by kernel_rfl) H) (fun x53 H => ?_)
                refine ls_p (d := some 54) (by kernel_rfl) (by kernel_rfl) (p_off Try.underlying72 rfl (fun w => ⟨_, Try.sizeOf30 w⟩) rfl (by kernel_rfl) H) (fun x54 H => ?_)
                refine ls_d (d := none) (by kernel_rfl) (by kernel_rfl) HA_18 (d_st Try.sizeOf30 (by kernel_rfl) (by kernel_rfl) H) (fun _ h_19 w_19 H HA_19 => ?_)
                refine ls_nil ?_
                exact ⟨(fun i => ([x0, x0, x48, x49, x50, x51, x52, x53, x54]).getD i undef), h_19, by kernel_rfl, HA_19, H⟩
              · refine wp_skip ?_
                exact ⟨(fun i => ([undef, undef, undef, undef, undef, undef, undef, undef, undef]).getD i undef), h_13, by kernel_rfl, HA_13, H⟩
            · rintro _ w_14 ⟨D_1, h_14, rfl, HA_14, H⟩
              unfold ldisc_Disc_extended_j2 at H
              refine then_normal ?_
              refine fr_eq (b := ⟨([x0, x1, undef, undef, (.bool false), undef, undef, x10, x0, x9, x10, x14, x0, x1, x14, undef, undef, undef, undef, undef, undef, undef, undef, undef, undef, undef, undef, undef, undef, x32, x0, x1, x32, undef, undef, undef, undef, x40, x0, x1, x40, x0, x1, x43, x0, x45, (D_1 0), (D_1 1), (D_1 2), (D_1 3)] ++ [(D_1 4), (D_1 5), (D_1 6), (D_1 7), (D_1 8), undef, undef, undef, undef, undef, undef, undef, undef, undef, undef, undef, undef, undef]).toArray, []⟩) (by kernel_rfl) ?_
              refine wp_seq ?_
              refine lwp_list ?_
              refine ls_move (x := x0) (by kernel_rfl) (by kernel_rfl) ?_
              refine ls_p (d := some 56) (by kernel_rfl) (by kernel_rfl) (p_nil (by kernel_rfl) H) (fun x56 H => ?_)
              refine ls_p (d := some 57) (by kernel_rfl) (by kernel_rfl) (p_off Try.underlying72 rfl (fun w => ⟨_, Try.sizeOf30 w⟩) rfl (by kernel_rfl) H) (fun x57 H => ?_)
              refine ls_y (d := some 58) (by kernel_rfl) (by kernel_rfl) HA_14 (y_ld Try.isAgg30 (by kernel_rfl) H) (fun x58 H => ?_)
              refine ls_p (d := some 59) (by kernel_rfl) (by kernel_rfl) (p_len Try.underlying30 (by kernel_rfl) H) (fun x59 H => ?_)
              refine ls_move (x := (.int .i64 0)) (by kernel_rfl) (by kernel_rfl) ?_
              refine ls_nil ?_
              refine then_normal ?_
              refine fr_eq (b := ⟨([x0, x1, undef, undef, (.bool false), undef, undef, x10, x0, x9, x10, x14, x0, x1, x14, undef, undef, undef, undef, undef, undef, undef, undef, undef, undef, undef, undef, undef, undef, x32, x0, x1, x32, undef, undef, undef, undef, x40, x0, x1, x40, x0, x1, x43, x0, x45, (D_1 0), (D_1 1), (D_1 2), (D_1 3)] ++ [(D_1 4), (D_1 5), (D_1 6), (D_1 7), (D_1 8), x0, x56, x57, x58, x59, (.int .i64 0), undef, undef, undef, undef, undef, undef, undef]).toArray, []⟩) (by kernel_rfl) ?_
              refine wp_block ?_
              obtain ⟨I, m, H0, HB⟩ := H
              refine wp_loop (fun a w => ∃ (D_2 : Nat → Value) (x60 : Value) (h_15 : Heap), a = ⟨([x0, x1, undef, undef, (.bool false), undef, (D_2 0), x10, x0, x9, x10, x14, x0, x1, x14, undef, undef, undef, undef, undef, undef, undef, undef, undef, undef, undef, undef, undef, undef, x32, x0, x1, x32, undef, undef, undef, undef, x40, x0, x1, x40, x0, x1, x43, x0, x45, (D_1 0), (D_1 1), (D_1 2), (D_1 3)] ++ [(D_1 4), (D_1 5), (D_1 6), (D_1 7), (D_1 8), x0, x56, x57, x58, x59, x60, (D_2 1), (D_2 2), (D_2 3), (D_2 4), (D_2 5), (D_2 6), (D_2 7)]).toArray, []⟩ ∧ At w0 w h_15 ∧ I x60 h_15) (fun a w => m (a.tmps.getD 60 undef) w.heap) ?_ ?_
              · exact ⟨(fun i => ([undef, undef, undef, undef, undef, undef, undef, undef]).getD i undef), (.int .i64 0), h_14, by kernel_rfl, HA_14, H0⟩
              · rintro _ w_15 ⟨D_2, x60, h_15, rfl, HA_15, HI⟩
                have H : ldisc_Disc_extended_l3 R x0 x58 x59 (fun x60' h' => I x60' h' ∧ m x60' h' < m x60 h_15) x60 h_15 := HB x60 h_15 HI
                clear HB H0 HI
                unfold ldisc_Disc_extended_l3 at H
                refine wp_seq ?_
                refine lwp_list ?_
                refine ls_p (d := some 61) (by kernel_rfl) (by kernel_rfl) (p_sLt (by kernel_rfl) (by kernel_rfl) H) (fun x61 H => ?_)
                refine ls_nil ?_
                refine then_normal ?_
                refine fr_eq (b := ⟨([x0, x1, undef, undef, (.bool false), undef, (D_2 0), x10, x0, x9, x10, x14, x0, x1, x14, undef, undef, undef, undef, undef, undef, undef, undef, undef, undef, undef, undef, undef, undef, x32, x0, x1, x32, undef, undef, undef, undef, x40, x0, x1, x40, x0, x1, x43, x0, x45, (D_1 0), (D_1 1), (D_1 2), (D_1 3)] ++ [(D_1 4), (D_1 5), (D_1 6), (D_1 7), (D_1 8), x0, x56, x57, x58, x59, x60, x61, (D_2 2), (D_2 3), (D_2 4), (D_2 5), (D_2 6), (D_2 7)]).toArray, []⟩) (by kernel_rfl) ?_
                refine wp_seq ?_
                refine wp_if rfl H (fun H => ?_) (fun H => ?_)
                · refine wp_skip ?_
                  refine then_normal ?_
                  refine fr_eq (b := ⟨([x0, x1, undef, undef, (.bool false), undef, (D_2 0), x10, x0, x9, x10, x14, x0, x1, x14, undef, undef, undef, undef, undef, undef, undef, undef, undef, undef, undef, undef, undef, undef, x32, x0, x1, x32, undef, undef, undef, undef, x40, x0, x1, x40, x0, x1, x43, x0, x45, (D_1 0), (D_1 1), (D_1 2), (D_1 3)] ++ [(D_1 4), (D_1 5), (D_1 6), (D_1 7), (D_1 8), x0, x56, x57, x58, x59, x60, x61, (D_2 2), (D_2 3), (D_2 4), (D_2 5), (D_2 6), (D_2 7)]).toArray, []⟩) (by kernel_rfl) ?_
                  refine wp_seq ?_
                  refine wp_block ?_
                  refine wp_seq ?_
                  refine lwp_list ?_
                  refine ls_p (d := some 62) (by kernel_rfl) (by kernel_rfl) (p_ixs Try.underlying30 Try.sizeOf5 (by kernel_rfl) (by kernel_rfl) H) (fun x62 H => ?_)
                  refine ls_y (d := some 63) (by kernel_rfl) (by kernel_rfl) HA_15 (y_ld Try.isAgg5 (by kernel_rfl) H) (fun x63 H => ?_)
                  refine ls_assign (x := x63) (by kernel_rfl) (by kernel_rfl) ?_
                  refine ls_nil ?_
                  refine then_normal ?_
                  refine fr_eq (b := ⟨([x0, x1, undef, undef, (.bool false), undef, x63, x10, x0, x9, x10, x14, x0, x1, x14, undef, undef, undef, undef, undef, undef, undef, undef, undef, undef, undef, undef, undef, undef, x32, x0, x1, x32, undef, undef, undef, undef, x40, x0, x1, x40, x0, x1, x43, x0, x45, (D_1 0), (D_1 1), (D_1 2), (D_1 3)] ++ [(D_1 4), (D_1 5), (D_1 6), (D_1 7), (D_1 8), x0, x56, x57, x58, x59, x60, x61, x62, x63, (D_2 4), (D_2 5), (D_2 6), (D_2 7)]).toArray, []⟩) (by kernel_rfl) ?_
                  refine lwp_list ?_
                  refine ls_move (x := x0) (by kernel_rfl) (by kernel_rfl) ?_
                  refine ls_move (x := x63) (by kernel_rfl) (by kernel_rfl) ?_
                  refine ls_d (d := some 66) (by kernel_rfl) (by kernel_rfl) HA_15 (d_call (by kernel_rfl) (by kernel_rfl) H) (fun x66 h_16 w_16 H HA_16 => ?_)
                  refine ls_nil ?_
                  refine block_normal ?_
                  refine then_normal ?_
                  refine fr_eq (b := ⟨([x0, x1, undef, undef, (.bool false), undef, x63, x10, x0, x9, x10, x14, x0, x1, x14, undef, undef, undef, undef, undef, undef, undef, undef, undef, undef, undef, undef, undef, undef, x32, x0, x1, x32, undef, undef, undef, undef, x40, x0, x1, x40, x0, x1, x43, x0, x45, (D_1 0), (D_1 1), (D_1 2), (D_1 3)] ++ [(D_1 4), (D_1 5), (D_1 6), (D_1 7), (D_1 8), x0, x56, x57, x58, x59, x60, x61, x62, x63, x0, x63, x66, (D_2 7)]).toArray, []⟩) (by kernel_rfl) ?_
                  refine lwp_list ?_
                  refine ls_p (d := some 67) (by kernel_rfl) (by kernel_rfl) (p_add (by kernel_rfl) (by kernel_rfl) H) (fun x67 H => ?_)
                  refine ls_move (x := x67) (by kernel_rfl) (by kernel_rfl) ?_
                  refine ls_nil ?_
                  exact ⟨⟨(fun i => ([x63, x61, x62, x63, x0, x63, x66, x67]).getD i undef), x67, h_16, by kernel_rfl, HA_16, H.1⟩, loop_lt HA_16.heap HA_15.heap (by kernel_rfl) (by kernel_rfl) H.2⟩
                · refine wp_exit ?_
                  refine then_exit ?_
                  refine then_exit ?_
                  refine block_exit ?_
                  refine block_normal ?_
                  exact ⟨(fun i => ([(.bool false), (D_2 0), x10, x0, x9, x10, x14, x0, x1, x14, undef, undef, undef, undef, undef, undef, undef, undef, undef, undef, undef, undef, undef, undef, x32, x0, x1, x32, undef, undef, undef, undef, x40, x0, x1, x40, x0, x1, x43, x0, x45, (D_1 0), (D_1 1), (D_1 2), (D_1 3), (D_1 4), (D_1 5), (D_1 6), (D_1 7), (D_1 8)] ++ [x0, x56, x57, x58, x59, x60, x61, (D_2 2), (D_2 3), (D_2 4), (D_2 5), (D_2 6), (D_2 7)]).getD i undef), h_15, by kernel_rfl, HA_15, H⟩
          · refine wp_seq ?_
            refine lwp_list ?_
            refine ls_assign (x := (.bool false)) (by kernel_rfl) (by kernel_rfl) ?_
            refine ls_nil ?_
            refine then_normal ?_
            refine fr_eq (b := ⟨([x0, x1, undef, undef, (.bool false), undef, undef, x10, x0, x9, x10, x14, x0, x1, x14, undef, undef, undef, undef, undef, undef, undef, undef, undef, undef, undef, undef, undef, undef, x32, x0, x1, x32, undef, undef, undef, undef, x40, x0, x1, x40, undef, undef, undef, undef, undef, undef, undef, undef, undef] ++ [undef, undef, undef, undef, undef, undef, undef, undef, undef, undef, undef, undef, undef, undef, undef, undef, undef, undef]).toArray, []⟩) (by kernel_rfl) ?_
            refine wp_ret ?_
            refine block_ret ?_
            refine then_ret ?_
            refine then_ret ?_
            exact end1 (Try.results79) (by kernel_rfl) (by kernel_rfl) HA_11 H _ (.inr rfl)
  · rintro _ w ⟨D, h, rfl, HA, H⟩
    unfold ldisc_Disc_extended_j1 at H
    refine then_normal ?_
    refine fr_eq (b := ⟨([x0, x1, undef, undef, (D 0), undef, (D 1), (D 2), (D 3), (D 4), (D 5), (D 6), (D 7), (D 8), (D 9), (D 10), (D 11), (D 12), (D 13), (D 14), (D 15), (D 16), (D 17), (D 18), (D 19), (D 20), (D 21), (D 22), (D 23), (D 24), (D 25), (D 26), (D 27), (D 28), (D 29), (D 30), (D 31), (D 32), (D 33), (D 34), (D 35), (D 36), (D 37), (D 38), (D 39), (D 40), (D 41), (D 42), (D 43), (D 44)] ++ [(D 45), (D 46), (D 47), (D 48), (D 49), (D 50), (D 51), (D 52), (D 53), (D 54), (D 55), (D 56), (D 57), (D 58), (D 59), (D 60), (D 61), (D 62)]).toArray, []⟩) (by kernel_rfl) ?_
    refine wp_seq ?_
    refine lwp_list ?_
    refine ls_assign (x := (.bool true)) (by kernel_rfl) (by kernel_rfl) ?_
    refine ls_nil ?_
    refine then_normal ?_
    refine fr_eq (b := ⟨([x0, x1, undef, undef, (.bool true), undef, (D 1), (D 2), (D 3), (D 4), (D 5), (D 6), (D 7), (D 8), (D 9), (D 10), (D 11), (D 12), (D 13), (D 14), (D 15), (D 16), (D 17), (D 18), (D 19), (D 20), (D 21), (D 22), (D 23), (D 24), (D 25), (D 26), (D 27), (D 28), (D 29), (D 30), (D 31), (D 32), (D 33), (D 34), (D 35), (D 36), (D 37), (D 38), (D 39), (D 40), (D 41), (D 42), (D 43), (D 44)] ++ [(D 45), (D 46), (D 47), (D 48), (D 49), (D 50), (D 51), (D 52), (D 53), (D 54), (D 55), (D 56), (D 57), (D 58), (D 59), (D 60), (D 61), (D 62)]).toArray, []⟩) (by kernel_rfl) ?_
    refine wp_ret ?_
    exact end1 (Try.results79) (by kernel_rfl) (by kernel_rfl) HA H _ (.inr rfl)

end Go.Proofs.Ytlcklnbgknhhkaa
