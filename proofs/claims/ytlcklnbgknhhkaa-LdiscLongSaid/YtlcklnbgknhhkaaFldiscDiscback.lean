/- The shallow reading of one function, and that the function does it. Written by a program. -/
import Derived.Test.YtlcklnbgknhhkaaFnC
set_option linter.unusedVariables false
namespace Go.Proofs.Ytlcklnbgknhhkaa
open Go Go.HW

def ldisc_Disc_back_l1 (R : Value → Heap → Prop) (x0 x38 : Value) (next : Value → Heap → Prop) (x39 : Value) (h_4 : Heap) : Prop :=
  sLt x39 x38 fun x40 =>
  sIf x40 (sNil x0 fun x43 =>
  sOff x43 22 fun x44 =>
  sLd h_4 x44 fun x45 =>
  sSlit h_4 #[.int .u8 0, .int .u8 0, .int .u8 0] [(0, 1, (.int .u8 8)), (1, 1, (.int .u8 32)), (2, 1, (.int .u8 8))] 5 3 fun x46 h_5 => 
  sApp h_5 x45 x46 #[.int .u8 0] 5 1 fun x47 h_6 => 
  sNil x0 fun x48 =>
  sOff x48 22 fun x49 =>
  sSt h_6 x49 x47 fun h_7 => 
  sAdd .i64 x39 (.int .i64 1) fun x50 =>
  next x50 h_7) (R unit h_4)
def ldisc_Disc_back_S (x0 : Value) (h : Heap) (R : Value → Heap → Prop) : Prop :=
  sNil x0 fun x5 =>
  sOff x5 17 fun x6 =>
  sLd h x6 fun x7 =>
  sLen x7 fun x8 =>
  sNil x0 fun x10 =>
  sOff x10 17 fun x11 =>
  sLd h x11 fun x12 =>
  sSub .i64 x8 (.int .i64 1) fun x14 =>
  sIxS x12 x14 1 fun x15 =>
  sLd h x15 fun x16 =>
  sNil x0 fun x19 =>
  sOff x19 17 fun x20 =>
  sLd h x20 fun x21 =>
  sSub .i64 x8 (.int .i64 1) fun x23 =>
  sSl x21 none (some x23) 1 fun x24 =>
  sNil x0 fun x25 =>
  sOff x25 17 fun x26 =>
  sSt h x26 x24 fun h => 
  ldisc_Disc_local_c x0 (.int .i64 2) h fun x28 h_1 => 
  sNot x28 fun x29 =>
  sOrH x29 h_1 (fun k =>
  ldisc_Disc_local_c x0 (.int .i64 4) h_1 fun x32 h_8 => 
  sNot x32 fun x33 =>
  k x33 h_8) fun x34 h_2 =>
  sIf x34 (R unit h_2) (ldisc_Disc_picture_c x0 x16 h_2 fun x37 h_3 => 
  sLen x37 fun x38 =>
  sLoop (S := Value) (fun nxt s h => ldisc_Disc_back_l1 R x0 x38 (fun x39' h => nxt x39' h) s h) (.int .i64 0) h_3)
set_option maxRecDepth 100000 in
theorem ldisc_Disc_back_runs {x0 : Value} {h : Heap} {R : Value → Heap → Prop} (H : ldisc_Disc_back_S x0 h R) : ldisc_Disc_back_c x0 h R := by
  unfold ldisc_Disc_back_S at H
  refine runs_of (b := ⟨#[x0, undef, undef, undef, undef, undef, undef, undef, undef, undef, undef, undef, undef, undef, undef, undef, undef, undef, undef, undef, undef, undef, undef, undef, undef, undef, undef, undef, undef, undef, undef, undef, undef, undef, undef, undef, undef, undef, undef, undef, undef, undef, undef, undef, undef, undef, undef, undef, undef, undef, undef], []⟩) Try.call80 Try.func80 rfl (by kernel_rfl) (fun w0 HA => ?_)
  refine wp_seq ?_
  refine lwp_list ?_
  refine ls_move (x := x0) (by kernel_rfl) (by kernel_rfl) ?_
  refine ls_p (d := some 5) (by kernel_rfl) (by kernel_rfl) (p_nil (by kernel_rfl) H) (fun x5 H => ?_)
  refine ls_p (d := some 6) (by kernel_rfl) (by kernel_rfl) (p_off Try.underlying72 rfl (fun w => ⟨_, Try.sizeOf30 w⟩) rfl (by kernel_rfl) H) (fun x6 H => ?_)
  refine ls_y (d := some 7) (by kernel_rfl) (by kernel_rfl) HA (y_ld Try.isAgg30 (by kernel_rfl) H) (fun x7 H => ?_)
  refine ls_p (d := some 8) (by kernel_rfl) (by kernel_rfl) (p_len Try.underlying30 (by kernel_rfl) H) (fun x8 H => ?_)
  refine ls_assign (x := x8) (by kernel_rfl) (by kernel_rfl) ?_
  refine ls_nil ?_
  refine then_normal ?_
  refine fr_eq (b := ⟨#[x0, undef, x8, undef, x0, x5, x6, x7, x8, undef, undef, undef, undef, undef, undef, undef, undef, undef, undef, undef, undef, undef, undef, undef, undef, undef, undef, undef, undef, undef, undef, undef, undef, undef, undef, undef, undef, undef, undef, undef, undef, undef, undef, undef, undef, undef, undef, undef, undef, undef, undef], []⟩) (by kernel_rfl) ?_
  refine wp_seq ?_
  refine lwp_list ?_
  refine ls_move (x := x0) (by kernel_rfl) (by kernel_rfl) ?_
  refine ls_p (d := some 10) (by kernel_rfl) (by kernel_rfl) (p_nil (by kernel_rfl) H) (fun x10 H => ?_)
  refine ls_p (d := some 11) (by kernel_rfl) (by kernel_rfl) (p_off Try.underlying72 rfl (fun w => ⟨_, Try.sizeOf30 w⟩) rfl (by kernel_rfl) H) (fun x11 H => ?_)
  refine ls_y (d := some 12) (by kernel_rfl) (by kernel_rfl) HA (y_ld Try.isAgg30 (by kernel_rfl) H) (fun x12 H => ?_)
  refine ls_move (x := x8) (by kernel_rfl) (by kernel_rfl) ?_
  refine ls_p (d := some 14) (by kernel_rfl) (by kernel_rfl) (p_sub (by kernel_rfl) (by kernel_rfl) H) (fun x14 H => ?_)
  refine ls_fr (b := ⟨#[x0, undef, x8, undef, x0, x5, x6, x7, x8, x0, x10, x11, x12, x8, x14, undef, undef, undef, undef, undef, undef, undef, undef, undef, undef, undef, undef, undef, undef, undef, undef, undef, undef, undef, undef, undef, undef, undef, undef, undef, undef, undef, undef, undef, undef, undef, undef, undef, undef, undef, undef], []⟩) (by kernel_rfl) ?_
  refine ls_p (d := some 15) (by kernel_rfl) (by kernel_rfl) (p_ixs Try.underlying30 Try.sizeOf5 (by kernel_rfl) (by kernel_rfl) H) (fun x15 H => ?_)
  refine ls_y (d := some 16) (by kernel_rfl) (by kernel_rfl) HA (y_ld Try.isAgg5 (by kernel_rfl) H) (fun x16 H => ?_)
  refine ls_assign (x := x16) (by kernel_rfl) (by kernel_rfl) ?_
  refine ls_nil ?_
  refine then_normal ?_
  refine fr_eq (b := ⟨#[x0, undef, x8, x16, x0, x5, x6, x7, x8, x0, x10, x11, x12, x8, x14, x15, x16, undef, undef, undef, undef, undef, undef, undef, undef, undef, undef, undef, undef, undef, undef, undef, undef, undef, undef, undef, undef, undef, undef, undef, undef, undef, undef, undef, undef, undef, undef, undef, undef, undef, undef], []⟩) (by kernel_rfl) ?_
  refine wp_seq ?_
  refine lwp_list ?_
  refine ls_move (x := x0) (by kernel_rfl) (by kernel_rfl) ?_
  refine ls_move (x := x0) (by kernel_rfl) (by kernel_rfl) ?_
  refine ls_p (d := some 19) (by kernel_rfl) (by kernel_rfl) (p_nil (by kernel_rfl) H) (fun x19 H => ?_)
  refine ls_p (d := some 20) (by kernel_rfl) (by kernel_rfl) (p_off Try.underlying72 rfl (fun w => ⟨_, Try.sizeOf30 w⟩) rfl (by kernel_rfl) H) (fun x20 H => ?_)
  refine ls_y (d := some 21) (by kernel_rfl) (by kernel_rfl) HA (y_ld Try.isAgg30 (by kernel_rfl) H) (fun x21 H => ?_)
  refine ls_move (x := x8) (by kernel_rfl) (by kernel_rfl) ?_
  refine ls_fr (b := ⟨#[x0, undef, x8, x16, x0, x5, x6, x7, x8, x0, x10, x11, x12, x8, x14, x15, x16, x0, x0, x19, x20, x21, x8, undef, undef, undef, undef, undef, undef, undef, undef, undef, undef, undef, undef, undef, undef, undef, undef, undef, undef, undef, undef, undef, undef, undef, undef, undef, undef, undef, undef], []⟩) (by kernel_rfl) ?_
  refine ls_p (d := some 23) (by kernel_rfl) (by kernel_rfl) (p_sub (by kernel_rfl) (by kernel_rfl) H) (fun x23 H => ?_)
  refine ls_p (d := some 24) (by kernel_rfl) (by kernel_rfl) (p_sl Try.underlying30 Try.sizeOf5 (by kernel_rfl) (by kernel_rfl) (by kernel_rfl) H) (fun x24 H => ?_)
  refine ls_p (d := some 25) (by kernel_rfl) (by kernel_rfl) (p_nil (by kernel_rfl) H) (fun x25 H => ?_)
  refine ls_p (d := some 26) (by kernel_rfl) (by kernel_rfl) (p_off Try.underlying72 rfl (fun w => ⟨_, Try.sizeOf30 w⟩) rfl (by kernel_rfl) H) (fun x26 H => ?_)
  refine ls_d (d := none) (by kernel_rfl) (by kernel_rfl) HA (d_st Try.sizeOf30 (by kernel_rfl) (by kernel_rfl) H) (fun _ h w H HA => ?_)
  refine ls_nil ?_
  refine then_normal ?_
  refine fr_eq (b := ⟨#[x0, undef, x8, x16, x0, x5, x6, x7, x8, x0, x10, x11, x12, x8, x14, x15, x16, x0, x0, x19, x20, x21, x8, x23, x24, x25, x26, undef, undef, undef, undef, undef, undef, undef, undef, undef, undef, undef, undef, undef, undef, undef, undef, undef, undef, undef, undef, undef, undef, undef, undef], []⟩) (by kernel_rfl) ?_
  refine wp_seq ?_
  refine wp_seq ?_
  refine lwp_list ?_
  refine ls_move (x := x0) (by kernel_rfl) (by kernel_rfl) ?_
  refine ls_d (d := some 28) (by kernel_rfl) (by kernel_rfl) HA (d_call (by kernel_rfl) (by kernel_rfl) H) (fun x28 h_1 w_1 H HA_1 => ?_)
  refine ls_p (d := some 29) (by kernel_rfl) (by kernel_rfl) (p_not (by kernel_rfl) H) (fun x29 H => ?_)
  refine ls_move (x := x29) (by kernel_rfl) (by kernel_rfl) ?_
  refine ls_orh [(), (), (), ()] (fun K a w => ∃ (D : Nat → Value) (x34 : Value) (h_2 : Heap), a = ⟨#[x0, undef, x8, x16, x0, x5, x6, x7, x8, x0, x10, x11, x12, x8, x14, x15, x16, x0, x0, x19, x20, x21, x8, x23, x24, x25, x26, x0, x28, x29, x29, (D 0), (D 1), (D 2), x34, undef, undef, undef, undef, undef, undef, undef, undef, undef, undef, undef, undef, undef, undef, undef, undef], []⟩ ∧ At w0 w h_2 ∧ K x34 h_2) H (fun hb H => ?_) (fun hb H => ?_) ?_
  · refine ls_move (x := x0) (by rw [hb]; kernel_rfl) (by kernel_rfl) ?_
    refine ls_d (d := some 32) (by kernel_rfl) (by rw [hb]; kernel_rfl) HA_1 (d_call (by kernel_rfl) (by kernel_rfl) H) (fun x32 h_8 w_8 H HA_8 => ?_)
    refine ls_fr (b := ⟨#[x0, undef, x8, x16, x0, x5, x6, x7, x8, x0, x10, x11, x12, x8, x14, x15, x16, x0, x0, x19, x20, x21, x8, x23, x24, x25, x26, x0, x28, x29, x29, x0, x32, undef, undef, undef, undef, undef, undef, undef, undef, undef, undef, undef, undef, undef, undef, undef, undef, undef, undef], []⟩) (by kernel_rfl) ?_
    refine ls_p (d := some 33) (by kernel_rfl) (by rw [hb]; kernel_rfl) (p_not (by kernel_rfl) H) (fun x33 H => ?_)
    refine ls_pick_f (y := x33) (by kernel_rfl) (by rw [hb]; kernel_rfl) (by kernel_rfl) ?_
    refine ls_nil ?_
    refine then_normal ?_
    exact ⟨(fun i => ([x0, x32, x33]).getD i undef), x33, h_8, by kernel_rfl, HA_8, H⟩
  · refine ls_skip (d := some 31) (by kernel_rfl) (by rw [hb]; kernel_rfl) ?_
    refine ls_skip (d := some 32) (by kernel_rfl) (by rw [hb]; kernel_rfl) ?_
    refine ls_fr (b := ⟨#[x0, undef, x8, x16, x0, x5, x6, x7, x8, x0, x10, x11, x12, x8, x14, x15, x16, x0, x0, x19, x20, x21, x8, x23, x24, x25, x26, x0, x28, x29, x29, undef, undef, undef, undef, undef, undef, undef, undef, undef, undef, undef, undef, undef, undef, undef, undef, undef, undef, undef, undef], []⟩) (by kernel_rfl) ?_
    refine ls_skip (d := some 33) (by kernel_rfl) (by rw [hb]; kernel_rfl) ?_
    refine ls_pick_t (x := (.bool true)) (by kernel_rfl) (by rw [hb]; kernel_rfl) (by kernel_rfl) ?_
    refine ls_nil ?_
    refine then_normal ?_
    exact ⟨(fun i => ([undef, undef, undef]).getD i undef), (.bool true), h_1, by kernel_rfl, HA_1, H⟩
  · rintro _ w_2 ⟨D, x34, h_2, rfl, HA_2, H⟩
    refine ls_nil ?_
    refine then_normal ?_
    refine fr_eq (b := ⟨#[x0, undef, x8, x16, x0, x5, x6, x7, x8, x0, x10, x11, x12, x8, x14, x15, x16, x0, x0, x19, x20, x21, x8, x23, x24, x25, x26, x0, x28, x29, x29, (D 0), (D 1), (D 2), x34, undef, undef, undef, undef, undef, undef, undef, undef, undef, undef, undef, undef, undef, undef, undef, undef], []⟩) (by kernel_rfl) ?_
    refine wp_if rfl H (fun H => ?_) (fun H => ?_)
    · refine wp_ret ?_
      refine then_ret ?_
      exact end0 (Try.results80) (by kernel_rfl) HA_2 H _ (.inr rfl)
    · refine wp_skip ?_
      refine then_normal ?_
      refine fr_eq (b := ⟨#[x0, undef, x8, x16, x0, x5, x6, x7, x8, x0, x10, x11, x12, x8, x14, x15, x16, x0, x0, x19, x20, x21, x8, x23, x24, x25, x26, x0, x28, x29, x29, (D 0), (D 1), (D 2), x34, undef, undef, undef, undef, undef, undef, undef, undef, undef, undef, undef, undef, undef, undef, undef, undef], []⟩) (by kernel_rfl) ?_
      refine wp_seq ?_
      refine lwp_list ?_
      refine ls_move (x := x0) (by kernel_rfl) (by kernel_rfl) ?_
      refine ls_move (x := x16) (by kernel_rfl) (by kernel_rfl) ?_
      refine ls_d (d := some 37) (by kernel_rfl) (by kernel_rfl) HA_2 (d_call (by kernel_rfl) (by kernel_rfl) H) (fun x37 h_3 w_3 H HA_3 => ?_)
      refine ls_p (d := some 38) (by kernel_rfl) (by kernel_rfl) (p_len Try.underlying30 (by kernel_rfl) H) (fun x38 H => ?_)
      refine ls_move (x := (.int .i64 0)) (by kernel_rfl) (by kernel_rfl) ?_
      refine ls_nil ?_
      refine then_normal ?_
      refine fr_eq (b := ⟨#[x0, undef, x8, x16, x0, x5, x6, x7, x8, x0, x10, x11, x12, x8, x14, x15, x16, x0, x0, x19, x20, x21, x8, x23, x24, x25, x26, x0, x28, x29, x29, (D 0), (D 1), (D 2), x34, x0, x16, x37, x38, (.int .i64 0), undef, undef, undef, undef, undef, undef, undef, undef, undef, undef, undef], []⟩) (by kernel_rfl) ?_
      refine wp_block ?_
      obtain ⟨I, m, H0, HB⟩ := H
      refine wp_loop (fun a w => ∃ (D_1 : Nat → Value) (x39 : Value) (h_4 : Heap), a = ⟨#[x0, undef, x8, x16, x0, x5, x6, x7, x8, x0, x10, x11, x12, x8, x14, x15, x16, x0, x0, x19, x20, x21, x8, x23, x24, x25, x26, x0, x28, x29, x29, (D 0), (D 1), (D 2), x34, x0, x16, x37, x38, x39, (D_1 0), (D_1 1), (D_1 2), (D_1 3), (D_1 4), (D_1 5), (D_1 6), (D_1 7), (D_1 8), (D_1 9), (D_1 10)], []⟩ ∧ At w0 w h_4 ∧ I x39 h_4) (fun a w => m (a.tmps.getD 39 undef) w.heap) ?_ ?_
      · exact ⟨(fun i => ([undef, undef, undef, undef, undef, undef, undef, undef, undef, undef, undef]).getD i undef), (.int .i64 0), h_3, by kernel_rfl, HA_3, H0⟩
      · rintro _ w_4 ⟨D_1, x39, h_4, rfl, HA_4, HI⟩
        have H : ldisc_Disc_back_l1 R x0 x38 (fun x39' h' => I x39' h' ∧ m x39' h' < m x39 h_4) x39 h_4 := HB x39 h_4 HI
        clear HB H0 HI
        unfold ldisc_Disc_back_l1 at H
        refine wp_seq ?_
        refine lwp_list ?_
        refine ls_p (d := some 40) (by kernel_rfl) (by kernel_rfl) (p_sLt (by kernel_rfl) (by kernel_rfl) H) (fun x40 H => ?_)
        refine ls_nil ?_
        refine then_normal ?_
        refine fr_eq (b := ⟨#[x0, undef, x8, x16, x0, x5, x6, x7, x8, x0, x10, x11, x12, x8, x14, x15, x16, x0, x0, x19, x20, x21, x8, x23, x24, x25, x26, x0, x28, x29, x29, (D 0), (D 1), (D 2), x34, x0, x16, x37, x38, x39, x40, (D_1 1), (D_1 2), (D_1 3), (D_1 4), (D_1 5), (D_1 6), (D_1 7), (D_1 8), (D_1 9), (D_1 10)], []⟩) (by kernel_rfl) ?_
        refine wp_seq ?_
        refine wp_if rfl H (fun H => ?_) (fun H => ?_)
        · refine wp_skip ?_
          refine then_normal ?_
          refine fr_eq (b := ⟨#[x0, undef, x8, x16, x0, x5, x6, x7, x8, x0, x10, x11, x12, x8, x14, x15, x16, x0, x0, x19, x20, x21, x8, x23, x24, x25, x26, x0, x28, x29, x29, (D 0), (D 1), (D 2), x34, x0, x16, x37, x38, x39, x40, (D_1 1), (D_1 2), (D_1 3), (D_1 4), (D_1 5), (D_1 6), (D_1 7), (D_1 8), (D_1 9), (D_1 10)], []⟩) (by kernel_rfl) ?_
          refine wp_seq ?_
          refine wp_block ?_
          refine lwp_list ?_
          refine ls_move (x := x0) (by kernel_rfl) (by kernel_rfl) ?_
          refine ls_move (x := x0) (by kernel_rfl) (by kernel_rfl) ?_
          refine ls_p (d := some 43) (by kernel_rfl) (by kernel_rfl) (p_nil (by kernel_rfl) H) (fun x43 H => ?_)
          refine ls_p (d := some 44) (by kernel_rfl) (by kernel_rfl) (p_off Try.underlying72 rfl (fun w => ⟨_, Try.sizeOf30 w⟩) rfl (by kernel_rfl) H) (fun x44 H => ?_)
          refine ls_y (d := some 45) (by kernel_rfl) (by kernel_rfl) HA_4 (y_ld Try.isAgg30 (by kernel_rfl) H) (fun x45 H => ?_)
          refine ls_d (d := some 46) (by kernel_rfl) (by kernel_rfl) HA_4 (d_slit (zc := #[.int .u8 0]) Try.underlying30 Try.sizeOf5 (by decide) (.inr ⟨by decide, _, Try.zeroValue5, (by kernel_rfl)⟩) (by kernel_rfl) (by kernel_rfl) H) (fun x46 h_5 w_5 H HA_5 => ?_)
          refine ls_fr (b := ⟨#[x0, undef, x8, x16, x0, x5, x6, x7, x8, x0, x10, x11, x12, x8, x14, x15, x16, x0, x0, x19, x20, x21, x8, x23, x24, x25, x26, x0, x28, x29, x29, (D 0), (D 1), (D 2), x34, x0, x16, x37, x38, x39, x40, x0, x0, x43, x44, x45, x46, (D_1 7), (D_1 8), (D_1 9), (D_1 10)], []⟩) (by kernel_rfl) ?_
          refine ls_d (d := some 47) (by kernel_rfl) (by kernel_rfl) HA_5 (d_app (z := #[.int .u8 0]) Try.underlying30 Try.underlying30 (.inl ⟨_, rfl⟩) Try.typeInfo5 (by kernel_rfl) Try.sizeOf5 Try.zeroValue5 (by kernel_rfl) (by kernel_rfl) (by kernel_rfl) H) (fun x47 h_6 w_6 H HA_6 => ?_)
          refine ls_p (d := some 48) (by kernel_rfl) (by kernel_rfl) (p_nil (by kernel_rfl) H) (fun x48 H => ?_)
          refine ls_p (d := some 49) (by kernel_rfl) (by kernel_rfl) (p_off Try.underlying72 rfl (fun w => ⟨_, Try.sizeOf30 w⟩) rfl (by kernel_rfl) H) (fun x49 H => ?_)
          refine ls_d (d := none) (by kernel_rfl) (by kernel_rfl) HA_6 (d_st Try.sizeOf30 (by kernel_rfl) (by kernel_rfl) H) (fun _ h_7 w_7 H HA_7 => ?_)
          refine ls_nil ?_
          refine block_normal ?_
          refine then_normal ?_
          refine fr_eq (b := ⟨#[x0, undef, x8, x16, x0, x5, x6, x7, x8, x0, x10, x11, x12, x8, x14, x15, x16, x0, x0, x19, x20, x21, x8, x23, x24, x25, x26, x0, x28, x29, x29, (D 0), (D 1), (D 2), x34, x0, x16, x37, x38, x39, x40, x0, x0, x43, x44, x45, x46, x47, x48, x49, (D_1 10)], []⟩) (by kernel_rfl) ?_
          refine lwp_list ?_
          refine ls_p (d := some 50) (by kernel_rfl) (by kernel_rfl) (p_add (by kernel_rfl) (by kernel_rfl) H) (fun x50 H => ?_)
          refine ls_move (x := x50) (by kernel_rfl) (by kernel_rfl) ?_
          refine ls_nil ?_
          exact ⟨⟨(fun i => ([x40, x0, x0, x43, x44, x45, x46, x47, x48, x49, x50]).getD i undef), x50, h_7, by kernel_rfl, HA_7, H.1⟩, loop_lt HA_7.heap HA_4.heap (by kernel_rfl) (by kernel_rfl) H.2⟩
        · refine wp_exit ?_
          refine then_exit ?_
          refine then_exit ?_
          refine block_exit ?_
          exact end0 (Try.results80) (by kernel_rfl) HA_4 H _ (.inl rfl)

end Go.Proofs.Ytlcklnbgknhhkaa
