/- The shallow reading of one function, and that the function does it. Written by a program. -/
import Derived.Test.YtlcklnbgknhhkaaFnC
set_option linter.unusedVariables false
namespace Go.Proofs.Ytlcklnbgknhhkaa
open Go Go.HW

def betonylaw18_awake_S (h : Heap) (R : Value → Heap → Prop) : Prop :=
  betonyref17_Plain_c  h fun x6 h => 
  ldisc_New_c x6 h fun x7 h_1 => 
  sEqlNil x7 fun x9 =>
  sIf x9 (R (.bool false) h_1) (sSlit h_1 #[.int .u8 0, .int .u8 0, .int .u8 0, .int .u8 0, .int .u8 0] [(0, 1, (.int .u8 97)), (1, 1, (.int .u8 98)), (2, 1, (.int .u8 127)), (3, 1, (.int .u8 99)), (4, 1, (.int .u8 13))] 5 5 fun x12 h_2 => 
  betonylaw18_feed_c x7 x12 h_2 fun x13 h_3 => 
  sTup x13 0 fun x14 =>
  sTup x13 1 fun x15 =>
  ldisc_Disc_Read_c x7 (.int .i64 9) h_3 fun x18 h_4 => 
  sTup x18 0 fun x19 =>
  sTup x18 1 fun x20 =>
  sSlit h_4 #[.int .u8 0, .int .u8 0, .int .u8 0, .int .u8 0, .int .u8 0, .int .u8 0, .int .u8 0] [(0, 1, (.int .u8 97)), (1, 1, (.int .u8 98)), (2, 1, (.int .u8 8)), (3, 1, (.int .u8 32)), (4, 1, (.int .u8 8)), (5, 1, (.int .u8 99)), (6, 1, (.int .u8 10))] 5 7 fun x22 h_5 => 
  betonyref01_Same_c x14 x22 h_5 fun x23 h_6 => 
  sAnd x23 (fun k_2 =>
  sEq x15 (.int .i64 0) fun x26 =>
  k_2 x26) fun x27 =>
  sAndH x27 h_6 (fun k_1 =>
  sSlit h_6 #[.int .u8 0, .int .u8 0, .int .u8 0] [(0, 1, (.int .u8 97)), (1, 1, (.int .u8 99)), (2, 1, (.int .u8 10))] 5 3 fun x30 h_8 => 
  betonyref01_Same_c x19 x30 h_8 fun x31 h_9 => 
  k_1 x31 h_9) fun x32 h_7 =>
  sAnd x32 (fun k =>
  sNot x20 fun x35 =>
  k x35) fun x36 =>
  R x36 h_7)
set_option maxRecDepth 100000 in
theorem betonylaw18_awake_runs {h : Heap} {R : Value → Heap → Prop} (H : betonylaw18_awake_S  h R) : betonylaw18_awake_c  h R := by
  unfold betonylaw18_awake_S at H
  refine runs_of (b := ⟨#[undef, undef, undef, undef, undef, undef, undef, undef, undef, undef, undef, undef, undef, undef, undef, undef, undef, undef, undef, undef, undef, undef, undef, undef, undef, undef, undef, undef, undef, undef, undef, undef, undef, undef, undef, undef, undef], []⟩) Try.call12 Try.func12 rfl (by kernel_rfl) (fun w0 HA => ?_)
  refine wp_seq ?_
  refine lwp_list ?_
  refine ls_assign (x := (.bool false)) (by kernel_rfl) (by kernel_rfl) ?_
  refine ls_nil ?_
  refine then_normal ?_
  refine fr_eq (b := ⟨#[(.bool false), undef, undef, undef, undef, undef, undef, undef, undef, undef, undef, undef, undef, undef, undef, undef, undef, undef, undef, undef, undef, undef, undef, undef, undef, undef, undef, undef, undef, undef, undef, undef, undef, undef, undef, undef, undef], []⟩) (by kernel_rfl) ?_
  refine wp_seq ?_
  refine lwp_list ?_
  refine ls_d (d := some 6) (by kernel_rfl) (by kernel_rfl) HA (d_call (by kernel_rfl) (by kernel_rfl) H) (fun x6 h w H HA => ?_)
  refine ls_d (d := some 7) (by kernel_rfl) (by kernel_rfl) HA (d_call (by kernel_rfl) (by kernel_rfl) H) (fun x7 h_1 w_1 H HA_1 => ?_)
  refine ls_assign (x := x7) (by kernel_rfl) (by kernel_rfl) ?_
  refine ls_nil ?_
  refine then_normal ?_
  refine fr_eq (b := ⟨#[(.bool false), x7, undef, undef, undef, undef, x6, x7, undef, undef, undef, undef, undef, undef, undef, undef, undef, undef, undef, undef, undef, undef, undef, undef, undef, undef, undef, undef, undef, undef, undef, undef, undef, undef, undef, undef, undef], []⟩) (by kernel_rfl) ?_
  refine wp_seq ?_
  refine wp_seq ?_
  refine lwp_list ?_
  refine ls_move (x := x7) (by kernel_rfl) (by kernel_rfl) ?_
  refine ls_p (d := some 9) (by kernel_rfl) (by kernel_rfl) (p_eqlNil Try.underlying24 (by kernel_rfl) (by kernel_rfl) H) (fun x9 H => ?_)
  refine ls_nil ?_
  refine then_normal ?_
  refine fr_eq (b := ⟨#[(.bool false), x7, undef, undef, undef, undef, x6, x7, x7, x9, undef, undef, undef, undef, undef, undef, undef, undef, undef, undef, undef, undef, undef, undef, undef, undef, undef, undef, undef, undef, undef, undef, undef, undef, undef, undef, undef], []⟩) (by kernel_rfl) ?_
  refine wp_if rfl H (fun H => ?_) (fun H => ?_)
  · refine wp_seq ?_
    refine lwp_list ?_
    refine ls_assign (x := (.bool false)) (by kernel_rfl) (by kernel_rfl) ?_
    refine ls_nil ?_
    refine then_normal ?_
    refine fr_eq (b := ⟨#[(.bool false), x7, undef, undef, undef, undef, x6, x7, x7, x9, undef, undef, undef, undef, undef, undef, undef, undef, undef, undef, undef, undef, undef, undef, undef, undef, undef, undef, undef, undef, undef, undef, undef, undef, undef, undef, undef], []⟩) (by kernel_rfl) ?_
    refine wp_ret ?_
    refine then_ret ?_
    exact end1 (Try.results12) (by kernel_rfl) (by kernel_rfl) HA_1 H _ (.inr rfl)
  · refine wp_skip ?_
    refine then_normal ?_
    refine fr_eq (b := ⟨#[(.bool false), x7, undef, undef, undef, undef, x6, x7, x7, x9, undef, undef, undef, undef, undef, undef, undef, undef, undef, undef, undef, undef, undef, undef, undef, undef, undef, undef, undef, undef, undef, undef, undef, undef, undef, undef, undef], []⟩) (by kernel_rfl) ?_
    refine wp_seq ?_
    refine lwp_list ?_
    refine ls_move (x := x7) (by kernel_rfl) (by kernel_rfl) ?_
    refine ls_d (d := some 12) (by kernel_rfl) (by kernel_rfl) HA_1 (d_slit (zc := #[.int .u8 0]) Try.underlying30 Try.sizeOf5 (by decide) (.inr ⟨by decide, _, Try.zeroValue5, (by kernel_rfl)⟩) (by kernel_rfl) (by kernel_rfl) H) (fun x12 h_2 w_2 H HA_2 => ?_)
    refine ls_d (d := some 13) (by kernel_rfl) (by kernel_rfl) HA_2 (d_call (by kernel_rfl) (by kernel_rfl) H) (fun x13 h_3 w_3 H HA_3 => ?_)
    refine ls_move (x := x13) (by kernel_rfl) (by kernel_rfl) ?_
    refine ls_p (d := some 14) (by kernel_rfl) (by kernel_rfl) (p_tup (by kernel_rfl) H) (fun x14 H => ?_)
    refine ls_p (d := some 15) (by kernel_rfl) (by kernel_rfl) (p_tup (by kernel_rfl) H) (fun x15 H => ?_)
    refine ls_fr (b := ⟨#[(.bool false), x7, undef, undef, undef, undef, x6, x7, x7, x9, x13, x7, x12, x13, x14, x15, undef, undef, undef, undef, undef, undef, undef, undef, undef, undef, undef, undef, undef, undef, undef, undef, undef, undef, undef, undef, undef], []⟩) (by kernel_rfl) ?_
    refine ls_assign (x := x14) (by kernel_rfl) (by kernel_rfl) ?_
    refine ls_assign (x := x15) (by kernel_rfl) (by kernel_rfl) ?_
    refine ls_nil ?_
    refine then_normal ?_
    refine fr_eq (b := ⟨#[(.bool false), x7, x14, x15, undef, undef, x6, x7, x7, x9, x13, x7, x12, x13, x14, x15, undef, undef, undef, undef, undef, undef, undef, undef, undef, undef, undef, undef, undef, undef, undef, undef, undef, undef, undef, undef, undef], []⟩) (by kernel_rfl) ?_
    refine wp_seq ?_
    refine lwp_list ?_
    refine ls_move (x := x7) (by kernel_rfl) (by kernel_rfl) ?_
    refine ls_d (d := some 18) (by kernel_rfl) (by kernel_rfl) HA_3 (d_call (by kernel_rfl) (by kernel_rfl) H) (fun x18 h_4 w_4 H HA_4 => ?_)
    refine ls_move (x := x18) (by kernel_rfl) (by kernel_rfl) ?_
    refine ls_p (d := some 19) (by kernel_rfl) (by kernel_rfl) (p_tup (by kernel_rfl) H) (fun x19 H => ?_)
    refine ls_p (d := some 20) (by kernel_rfl) (by kernel_rfl) (p_tup (by kernel_rfl) H) (fun x20 H => ?_)
    refine ls_assign (x := x19) (by kernel_rfl) (by kernel_rfl) ?_
    refine ls_fr (b := ⟨#[(.bool false), x7, x14, x15, x19, undef, x6, x7, x7, x9, x13, x7, x12, x13, x14, x15, x18, x7, x18, x19, x20, undef, undef, undef, undef, undef, undef, undef, undef, undef, undef, undef, undef, undef, undef, undef, undef], []⟩) (by kernel_rfl) ?_
    refine ls_assign (x := x20) (by kernel_rfl) (by kernel_rfl) ?_
    refine ls_nil ?_
    refine then_normal ?_
    refine fr_eq (b := ⟨#[(.bool false), x7, x14, x15, x19, x20, x6, x7, x7, x9, x13, x7, x12, x13, x14, x15, x18, x7, x18, x19, x20, undef, undef, undef, undef, undef, undef, undef, undef, undef, undef, undef, undef, undef, undef, undef, undef], []⟩) (by kernel_rfl) ?_
    refine wp_seq ?_
    refine lwp_list ?_
    refine ls_move (x := x14) (by kernel_rfl) (by kernel_rfl) ?_
    refine ls_d (d := some 22) (by kernel_rfl) (by kernel_rfl) HA_4 (d_slit (zc := #[.int .u8 0]) Try.underlying30 Try.sizeOf5 (by decide) (.inr ⟨by decide, _, Try.zeroValue5, (by kernel_rfl)⟩) (by kernel_rfl) (by kernel_rfl) H) (fun x22 h_5 w_5 H HA_5 => ?_)
    refine ls_d (d := some 23) (by kernel_rfl) (by kernel_rfl) HA_5 (d_call (by kernel_rfl) (by kernel_rfl) H) (fun x23 h_6 w_6 H HA_6 => ?_)
    refine ls_move (x := x23) (by kernel_rfl) (by kernel_rfl) ?_
    refine ls_and [(), (), ()] (fun K a w => ∃ (D : Nat → Value) (x27 : Value), a = ⟨#[(.bool false), x7, x14, x15, x19, x20, x6, x7, x7, x9, x13, x7, x12, x13, x14, x15, x18, x7, x18, x19, x20, x14, x22, x23, x23, (D 0), (D 1), x27, undef, undef, undef, undef, undef, undef, undef, undef, undef], []⟩ ∧ At w0 w h_6 ∧ K x27) H (fun hb_2 H => ?_) (fun hb_2 H => ?_) ?_
    · refine ls_move (x := x15) (by rw [hb_2]; kernel_rfl) (by kernel_rfl) ?_
      refine ls_p (d := some 26) (by kernel_rfl) (by rw [hb_2]; kernel_rfl) (p_sEq (by kernel_rfl) (by kernel_rfl) H) (fun x26 H => ?_)
      refine ls_fr (b := ⟨#[(.bool false), x7, x14, x15, x19, x20, x6, x7, x7, x9, x13, x7, x12, x13, x14, x15, x18, x7, x18, x19, x20, x14, x22, x23, x23, x15, x26, undef, undef, undef, undef, undef, undef, undef, undef, undef, undef], []⟩) (by kernel_rfl) ?_
      refine ls_pick_t (x := x26) (by kernel_rfl) (by rw [hb_2]; kernel_rfl) (by kernel_rfl) ?_
      refine ls_nil ?_
      refine then_normal ?_
      exact ⟨(fun i => ([x15, x26]).getD i undef), x26, by kernel_rfl, HA_6, H⟩
    · refine ls_skip (d := some 25) (by kernel_rfl) (by rw [hb_2]; kernel_rfl) ?_
      refine ls_skip (d := some 26) (by kernel_rfl) (by rw [hb_2]; kernel_rfl) ?_
      refine ls_fr (b := ⟨#[(.bool false), x7, x14, x15, x19, x20, x6, x7, x7, x9, x13, x7, x12, x13, x14, x15, x18, x7, x18, x19, x20, x14, x22, x23, x23, undef, undef, undef, undef, undef, undef, undef, undef, undef, undef, undef, undef], []⟩) (by kernel_rfl) ?_
      refine ls_pick_f (y := (.bool false)) (by kernel_rfl) (by rw [hb_2]; kernel_rfl) (by kernel_rfl) ?_
      refine ls_nil ?_
      refine then_normal ?_
      exact ⟨(fun i => ([undef, undef]).getD i undef), (.bool false), by kernel_rfl, HA_6, H⟩
    · rintro _ w_7 ⟨D, x27, rfl, HA_7, H⟩
      refine ls_move (x := x27) (by kernel_rfl) (by kernel_rfl) ?_
      refine ls_andh [(), (), (), ()] (fun K a w => ∃ (D_1 : Nat → Value) (x32 : Value) (h_7 : Heap), a = ⟨#[(.bool false), x7, x14, x15, x19, x20, x6, x7, x7, x9, x13, x7, x12, x13, x14, x15, x18, x7, x18, x19, x20, x14, x22, x23, x23, (D 0), (D 1), x27, x27, (D_1 0), (D_1 1), (D_1 2), x32, undef, undef, undef, undef], []⟩ ∧ At w0 w h_7 ∧ K x32 h_7) H (fun hb_1 H => ?_) (fun hb_1 H => ?_) ?_
      · refine ls_move (x := x19) (by rw [hb_1]; kernel_rfl) (by kernel_rfl) ?_
        refine ls_d (d := some 30) (by kernel_rfl) (by rw [hb_1]; kernel_rfl) HA_7 (d_slit (zc := #[.int .u8 0]) Try.underlying30 Try.sizeOf5 (by decide) (.inr ⟨by decide, _, Try.zeroValue5, (by kernel_rfl)⟩) (by kernel_rfl) (by kernel_rfl) H) (fun x30 h_8 w_10 H HA_10 => ?_)
        refine ls_d (d := some 31) (by kernel_rfl) (by rw [hb_1]; kernel_rfl) HA_10 (d_call (by kernel_rfl) (by kernel_rfl) H) (fun x31 h_9 w_11 H HA_11 => ?_)
        refine ls_pick_t (x := x31) (by kernel_rfl) (by rw [hb_1]; kernel_rfl) (by kernel_rfl) ?_
        refine ls_nil ?_
        refine then_normal ?_
        exact ⟨(fun i => ([x19, x30, x31]).getD i undef), x31, h_9, by kernel_rfl, HA_11, H⟩
      · refine ls_skip (d := some 29) (by kernel_rfl) (by rw [hb_1]; kernel_rfl) ?_
        refine ls_skip (d := some 30) (by kernel_rfl) (by rw [hb_1]; kernel_rfl) ?_
        refine ls_skip (d := some 31) (by kernel_rfl) (by rw [hb_1]; kernel_rfl) ?_
        refine ls_pick_f (y := (.bool false)) (by kernel_rfl) (by rw [hb_1]; kernel_rfl) (by kernel_rfl) ?_
        refine ls_nil ?_
        refine then_normal ?_
        exact ⟨(fun i => ([undef, undef, undef]).getD i undef), (.bool false), h_6, by kernel_rfl, HA_7, H⟩
      · rintro _ w_8 ⟨D_1, x32, h_7, rfl, HA_8, H⟩
        refine ls_move (x := x32) (by kernel_rfl) (by kernel_rfl) ?_
        refine ls_and [(), (), ()] (fun K a w => ∃ (D_2 : Nat → Value) (x36 : Value), a = ⟨#[(.bool false), x7, x14, x15, x19, x20, x6, x7, x7, x9, x13, x7, x12, x13, x14, x15, x18, x7, x18, x19, x20, x14, x22, x23, x23, (D 0), (D 1), x27, x27, (D_1 0), (D_1 1), (D_1 2), x32, x32, (D_2 0), (D_2 1), x36], []⟩ ∧ At w0 w h_7 ∧ K x36) H (fun hb H => ?_) (fun hb H => ?_) ?_
        · refine ls_move (x := x20) (by rw [hb]; kernel_rfl) (by kernel_rfl) ?_
          refine ls_p (d := some 35) (by kernel_rfl) (by rw [hb]; kernel_rfl) (p_not (by kernel_rfl) H) (fun x35 H => ?_)
          refine ls_pick_t (x := x35) (by kernel_rfl) (by rw [hb]; kernel_rfl) (by kernel_rfl) ?_
          refine ls_nil ?_
          refine then_normal ?_
          exact ⟨(fun i => ([x20, x35]).getD i undef), x35, by kernel_rfl, HA_8, H⟩
        · refine ls_skip (d := some 34) (by kernel_rfl) (by rw [hb]; kernel_rfl) ?_
          refine ls_skip (d := some 35) (by kernel_rfl) (by rw [hb]; kernel_rfl) ?_
          refine ls_pick_f (y := (.bool false)) (by kernel_rfl) (by rw [hb]; kernel_rfl) (by kernel_rfl) ?_
          refine ls_nil ?_
          refine then_normal ?_
          exact ⟨(fun i => ([undef, undef]).getD i undef), (.bool false), by kernel_rfl, HA_8, H⟩
        · rintro _ w_9 ⟨D_2, x36, rfl, HA_9, H⟩
          refine ls_assign (x := x36) (by kernel_rfl) (by kernel_rfl) ?_
          refine ls_nil ?_
          refine then_normal ?_
          refine fr_eq (b := ⟨#[x36, x7, x14, x15, x19, x20, x6, x7, x7, x9, x13, x7, x12, x13, x14, x15, x18, x7, x18, x19, x20, x14, x22, x23, x23, (D 0), (D 1), x27, x27, (D_1 0), (D_1 1), (D_1 2), x32, x32, (D_2 0), (D_2 1), x36], []⟩) (by kernel_rfl) ?_
          refine wp_ret ?_
          exact end1 (Try.results12) (by kernel_rfl) (by kernel_rfl) HA_9 H _ (.inr rfl)

end Go.Proofs.Ytlcklnbgknhhkaa
