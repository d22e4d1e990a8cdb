/- Texts in one. -/
import Derived.Test.YtlcklnbgknhhkaaFnC
import Derived.Test.YtlcklnbgknhhkaaPk5
section
/- The shallow reading of one function, and that the function does it. Written by a program. -/
set_option linter.unusedVariables false
namespace Go.Proofs.Ytlcklnbgknhhkaa
open Go Go.HW

def betonylaw22_awake_S (h : Heap) (R : Value → Heap → Prop) : Prop :=
  betonyref17_Plain_c  h fun x9 h => 
  pty_New_c x9 h fun x10 h_1 => 
  sEqlNil x10 fun x12 =>
  sIf x12 (R (.bool false) h_1) (sSlit h_1 #[.int .u8 0, .int .u8 0, .int .u8 0] [(0, 1, (.int .u8 104)), (1, 1, (.int .u8 105)), (2, 1, (.int .u8 13))] 5 3 fun x15 h_2 => 
  pty_Pair_MasterWrite_c x10 x15 h_2 fun x16 h_3 => 
  sTup x16 0 fun x17 =>
  sTup x16 1 fun x18 =>
  sTup x16 2 fun x19 =>
  pty_Pair_MasterRead_c x10 (.int .i64 99) h_3 fun x22 h_4 => 
  sTup x22 0 fun x23 =>
  sTup x22 1 fun x24 =>
  pty_Pair_SlaveRead_c x10 (.int .i64 99) h_4 fun x27 h_5 => 
  sTup x27 0 fun x28 =>
  sTup x27 1 fun x29 =>
  sEq x17 (.int .i64 3) fun x31 =>
  sAnd x31 (fun k_5 =>
  sLen x18 fun x34 =>
  sEq x34 (.int .i64 0) fun x35 =>
  k_5 x35) fun x36 =>
  sAnd x36 (fun k_4 =>
  sEq x19 (.int .i64 0) fun x39 =>
  k_4 x39) fun x40 =>
  sAnd x40 (fun k_3 =>
  sEq x24 (.int .i64 0) fun x43 =>
  k_3 x43) fun x44 =>
  sAnd x44 (fun k_2 =>
  sEq x29 (.int .i64 0) fun x47 =>
  k_2 x47) fun x48 =>
  sAndH x48 h_5 (fun k_1 =>
  sSlit h_5 #[.int .u8 0, .int .u8 0, .int .u8 0, .int .u8 0] [(0, 1, (.int .u8 104)), (1, 1, (.int .u8 105)), (2, 1, (.int .u8 13)), (3, 1, (.int .u8 10))] 5 4 fun x51 h_10 => 
  betonyref01_Same_c x23 x51 h_10 fun x52 h_11 => 
  k_1 x52 h_11) fun x53 h_6 =>
  sAndH x53 h_6 (fun k =>
  sSlit h_6 #[.int .u8 0, .int .u8 0, .int .u8 0] [(0, 1, (.int .u8 104)), (1, 1, (.int .u8 105)), (2, 1, (.int .u8 10))] 5 3 fun x56 h_8 => 
  betonyref01_Same_c x28 x56 h_8 fun x57 h_9 => 
  k x57 h_9) fun x58 h_7 =>
  R x58 h_7)
set_option maxRecDepth 100000 in
theorem betonylaw22_awake_runs {h : Heap} {R : Value → Heap → Prop} (H : betonylaw22_awake_S  h R) : betonylaw22_awake_c  h R := by
  unfold betonylaw22_awake_S at H
  refine runs_of (b := ⟨#[undef, undef, undef, undef, undef, undef, undef, undef, undef, undef, undef, undef, undef, undef, undef, undef, undef, undef, undef, undef, undef, undef, undef, undef, undef, undef, undef, undef, undef, undef, undef, undef, undef, undef, undef, undef, undef, undef, undef, undef, undef, undef, undef, undef, undef, undef, undef, undef, undef, undef, undef, undef, undef, undef, undef, undef, undef, undef, undef], []⟩) Try.call32 Try.func32 rfl (by kernel_rfl) (fun w0 HA => ?_)
  refine wp_seq ?_
  refine lwp_list ?_
  refine ls_assign (x := (.bool false)) (by kernel_rfl) (by kernel_rfl) ?_
  refine ls_nil ?_
  refine then_normal ?_
  refine fr_eq (b := ⟨#[(.bool false), undef, undef, undef, undef, undef, undef, undef, undef, undef, undef, undef, undef, undef, undef, undef, undef, undef, undef, undef, undef, undef, undef, undef, undef, undef, undef, undef, undef, undef, undef, undef, undef, undef, undef, undef, undef, undef, undef, undef, undef, undef, undef, undef, undef, undef, undef, undef, undef, undef, undef, undef, undef, undef, undef, undef, undef, undef, undef], []⟩) (by kernel_rfl) ?_
  refine wp_seq ?_
  refine lwp_list ?_
  refine ls_d (d := some 9) (by kernel_rfl) (by kernel_rfl) HA (d_call (by kernel_rfl) (by kernel_rfl) H) (fun x9 h w H HA => ?_)
  refine ls_d (d := some 10) (by kernel_rfl) (by kernel_rfl) HA (d_call (by kernel_rfl) (by kernel_rfl) H) (fun x10 h_1 w_1 H HA_1 => ?_)
  refine ls_assign (x := x10) (by kernel_rfl) (by kernel_rfl) ?_
  refine ls_nil ?_
  refine then_normal ?_
  refine fr_eq (b := ⟨#[(.bool false), x10, undef, undef, undef, undef, undef, undef, undef, x9, x10, undef, undef, undef, undef, undef, undef, undef, undef, undef, undef, undef, undef, undef, undef, undef, undef, undef, undef, undef, undef, undef, undef, undef, undef, undef, undef, undef, undef, undef, undef, undef, undef, undef, undef, undef, undef, undef, undef, undef, undef, undef, undef, undef, undef, undef, undef, undef, undef], []⟩) (by kernel_rfl) ?_
  refine wp_seq ?_
  refine wp_seq ?_
  refine lwp_list ?_
  refine ls_move (x := x10) (by kernel_rfl) (by kernel_rfl) ?_
  refine ls_p (d := some 12) (by kernel_rfl) (by kernel_rfl) (p_eqlNil Try.underlying54 (by kernel_rfl) (by kernel_rfl) H) (fun x12 H => ?_)
  refine ls_nil ?_
  refine then_normal ?_
  refine fr_eq (b := ⟨#[(.bool false), x10, undef, undef, undef, undef, undef, undef, undef, x9, x10, x10, x12, undef, undef, undef, undef, undef, undef, undef, undef, undef, undef, undef, undef, undef, undef, undef, undef, undef, undef, undef, undef, undef, undef, undef, undef, undef, undef, undef, undef, undef, undef, undef, undef, undef, undef, undef, undef, undef, undef, undef, undef, undef, undef, undef, undef, undef, undef], []⟩) (by kernel_rfl) ?_
  refine wp_if rfl H (fun H => ?_) (fun H => ?_)
  · refine wp_seq ?_
    refine lwp_list ?_
    refine ls_assign (x := (.bool false)) (by kernel_rfl) (by kernel_rfl) ?_
    refine ls_nil ?_
    refine then_normal ?_
    refine fr_eq (b := ⟨#[(.bool false), x10, undef, undef, undef, undef, undef, undef, undef, x9, x10, x10, x12, undef, undef, undef, undef, undef, undef, undef, undef, undef, undef, undef, undef, undef, undef, undef, undef, undef, undef, undef, undef, undef, undef, undef, undef, undef, undef, undef, undef, undef, undef, undef, undef, undef, undef, undef, undef, undef, undef, undef, undef, undef, undef, undef, undef, undef, undef], []⟩) (by kernel_rfl) ?_
    refine wp_ret ?_
    refine then_ret ?_
    exact end1 (Try.results32) (by kernel_rfl) (by kernel_rfl) HA_1 H _ (.inr rfl)
  · refine wp_skip ?_
    refine then_normal ?_
    refine fr_eq (b := ⟨#[(.bool false), x10, undef, undef, undef, undef, undef, undef, undef, x9, x10, x10, x12, undef, undef, undef, undef, undef, undef, undef, undef, undef, undef, undef, undef, undef, undef, undef, undef, undef, undef, undef, undef, undef, undef, undef, undef, undef, undef, undef, undef, undef, undef, undef, undef, undef, undef, undef, undef, undef, undef, undef, undef, undef, undef, undef, undef, undef, undef], []⟩) (by kernel_rfl) ?_
    refine wp_seq ?_
    refine lwp_list ?_
    refine ls_move (x := x10) (by kernel_rfl) (by kernel_rfl) ?_
    refine ls_d (d := some 15) (by kernel_rfl) (by kernel_rfl) HA_1 (d_slit (zc := #[.int .u8 0]) Try.underlying30 Try.sizeOf5 (by decide) (.inr ⟨by decide, _, Try.zeroValue5, (by kernel_rfl)⟩) (by kernel_rfl) (by kernel_rfl) H) (fun x15 h_2 w_2 H HA_2 => ?_)
    refine ls_d (d := some 16) (by kernel_rfl) (by kernel_rfl) HA_2 (d_call (by kernel_rfl) (by kernel_rfl) H) (fun x16 h_3 w_3 H HA_3 => ?_)
    refine ls_move (x := x16) (by kernel_rfl) (by kernel_rfl) ?_
    refine ls_p (d := some 17) (by kernel_rfl) (by kernel_rfl) (p_tup (by kernel_rfl) H) (fun x17 H => ?_)
    refine ls_p (d := some 18) (by kernel_rfl) (by kernel_rfl) (p_tup (by kernel_rfl) H) (fun x18 H => ?_)
    refine ls_fr (b := ⟨#[(.bool false), x10, undef, undef, undef, undef, undef, undef, undef, x9, x10, x10, x12, x16, x10, x15, x16, x17, x18, undef, undef, undef, undef, undef, undef, undef, undef, undef, undef, undef, undef, undef, undef, undef, undef, undef, undef, undef, undef, undef, undef, undef, undef, undef, undef, undef, undef, undef, undef, undef, undef, undef, undef, undef, undef, undef, undef, undef, undef], []⟩) (by kernel_rfl) ?_
    refine ls_p (d := some 19) (by kernel_rfl) (by kernel_rfl) (p_tup (by kernel_rfl) H) (fun x19 H => ?_)
    refine ls_assign (x := x17) (by kernel_rfl) (by kernel_rfl) ?_
    refine ls_assign (x := x18) (by kernel_rfl) (by kernel_rfl) ?_
    refine ls_assign (x := x19) (by kernel_rfl) (by kernel_rfl) ?_
    refine ls_nil ?_
    refine then_normal ?_
    refine fr_eq (b := ⟨#[(.bool false), x10, x17, x18, x19, undef, undef, undef, undef, x9, x10, x10, x12, x16, x10, x15, x16, x17, x18, x19, undef, undef, undef, undef, undef, undef, undef, undef, undef, undef, undef, undef, undef, undef, undef, undef, undef, undef, undef, undef, undef, undef, undef, undef, undef, undef, undef, undef, undef, undef, undef, undef, undef, undef, undef, undef, undef, undef, undef], []⟩) (by kernel_rfl) ?_
    refine wp_seq ?_
    refine lwp_list ?_
    refine ls_move (x := x10) (by kernel_rfl) (by kernel_rfl) ?_
    refine ls_d (d := some 22) (by kernel_rfl) (by kernel_rfl) HA_3 (d_call (by kernel_rfl) (by kernel_rfl) H) (fun x22 h_4 w_4 H HA_4 => ?_)
    refine ls_move (x := x22) (by kernel_rfl) (by kernel_rfl) ?_
    refine ls_p (d := some 23) (by kernel_rfl) (by kernel_rfl) (p_tup (by kernel_rfl) H) (fun x23 H => ?_)
    refine ls_p (d := some 24) (by kernel_rfl) (by kernel_rfl) (p_tup (by kernel_rfl) H) (fun x24 H => ?_)
    refine ls_assign (x := x23) (by kernel_rfl) (by kernel_rfl) ?_
    refine ls_fr (b := ⟨#[(.bool false), x10, x17, x18, x19, x23, undef, undef, undef, x9, x10, x10, x12, x16, x10, x15, x16, x17, x18, x19, x22, x10, x22, x23, x24, undef, undef, undef, undef, undef, undef, undef, undef, undef, undef, undef, undef, undef, undef, undef, undef, undef, undef, undef, undef, undef, undef, undef, undef, undef, undef, undef, undef, undef, undef, undef, undef, undef, undef], []⟩) (by kernel_rfl) ?_
    refine ls_assign (x := x24) (by kernel_rfl) (by kernel_rfl) ?_
    refine ls_nil ?_
    refine then_normal ?_
    refine fr_eq (b := ⟨#[(.bool false), x10, x17, x18, x19, x23, x24, undef, undef, x9, x10, x10, x12, x16, x10, x15, x16, x17, x18, x19, x22, x10, x22, x23, x24, undef, undef, undef, undef, undef, undef, undef, undef, undef, undef, undef, undef, undef, undef, undef, undef, undef, undef, undef, undef, undef, undef, undef, undef, undef, undef, undef, undef, undef, undef, undef, undef, undef, undef], []⟩) (by kernel_rfl) ?_
    refine wp_seq ?_
    refine lwp_list ?_
    refine ls_move (x := x10) (by kernel_rfl) (by kernel_rfl) ?_
    refine ls_d (d := some 27) (by kernel_rfl) (by kernel_rfl) HA_4 (d_call (by kernel_rfl) (by kernel_rfl) H) (fun x27 h_5 w_5 H HA_5 => ?_)
    refine ls_move (x := x27) (by kernel_rfl) (by kernel_rfl) ?_
    refine ls_p (d := some 28) (by kernel_rfl) (by kernel_rfl) (p_tup (by kernel_rfl) H) (fun x28 H => ?_)
    refine ls_p (d := some 29) (by kernel_rfl) (by kernel_rfl) (p_tup (by kernel_rfl) H) (fun x29 H => ?_)
    refine ls_assign (x := x28) (by kernel_rfl) (by kernel_rfl) ?_
    refine ls_fr (b := ⟨#[(.bool false), x10, x17, x18, x19, x23, x24, x28, undef, x9, x10, x10, x12, x16, x10, x15, x16, x17, x18, x19, x22, x10, x22, x23, x24, x27, x10, x27, x28, x29, undef, undef, undef, undef, undef, undef, undef, undef, undef, undef, undef, undef, undef, undef, undef, undef, undef, undef, undef, undef, undef, undef, undef, undef, undef, undef, undef, undef, undef], []⟩) (by kernel_rfl) ?_
    refine ls_assign (x := x29) (by kernel_rfl) (by kernel_rfl) ?_
    refine ls_nil ?_
    refine then_normal ?_
    refine fr_eq (b := ⟨#[(.bool false), x10, x17, x18, x19, x23, x24, x28, x29, x9, x10, x10, x12, x16, x10, x15, x16, x17, x18, x19, x22, x10, x22, x23, x24, x27, x10, x27, x28, x29, undef, undef, undef, undef, undef, undef, undef, undef, undef, undef, undef, undef, undef, undef, undef, undef, undef, undef, undef, undef, undef, undef, undef, undef, undef, undef, undef, undef, undef], []⟩) (by kernel_rfl) ?_
    refine wp_seq ?_
    refine lwp_list ?_
    refine ls_move (x := x17) (by kernel_rfl) (by kernel_rfl) ?_
    refine ls_p (d := some 31) (by kernel_rfl) (by kernel_rfl) (p_sEq (by kernel_rfl) (by kernel_rfl) H) (fun x31 H => ?_)
    refine ls_move (x := x31) (by kernel_rfl) (by kernel_rfl) ?_
    refine ls_and [(), (), (), ()] (fun K a w => ∃ (D : Nat → Value) (x36 : Value), a = ⟨#[(.bool false), x10, x17, x18, x19, x23, x24, x28, x29, x9, x10, x10, x12, x16, x10, x15, x16, x17, x18, x19, x22, x10, x22, x23, x24, x27, x10, x27, x28, x29, x17, x31, x31, (D 0), (D 1), (D 2), x36, undef, undef, undef, undef, undef, undef, undef, undef, undef, undef, undef, undef, undef, undef, undef, undef, undef, undef, undef, undef, undef, undef], []⟩ ∧ At w0 w h_5 ∧ K x36) H (fun hb_5 H => ?_) (fun hb_5 H => ?_) ?_
    · refine ls_move (x := x18) (by rw [hb_5]; kernel_rfl) (by kernel_rfl) ?_
      refine ls_p (d := some 34) (by kernel_rfl) (by rw [hb_5]; kernel_rfl) (p_len Try.underlying56 (by kernel_rfl) H) (fun x34 H => ?_)
      refine ls_p (d := some 35) (by kernel_rfl) (by rw [hb_5]; kernel_rfl) (p_sEq (by kernel_rfl) (by kernel_rfl) H) (fun x35 H => ?_)
      refine ls_fr (b := ⟨#[(.bool false), x10, x17, x18, x19, x23, x24, x28, x29, x9, x10, x10, x12, x16, x10, x15, x16, x17, x18, x19, x22, x10, x22, x23, x24, x27, x10, x27, x28, x29, x17, x31, x31, x18, x34, x35, undef, undef, undef, undef, undef, undef, undef, undef, undef, undef, undef, undef, undef, undef, undef, undef, undef, undef, undef, undef, undef, undef, undef], []⟩) (by kernel_rfl) ?_
      refine ls_pick_t (x := x35) (by kernel_rfl) (by rw [hb_5]; kernel_rfl) (by kernel_rfl) ?_
      refine ls_nil ?_
      refine then_normal ?_
      exact ⟨(fun i => ([x18, x34, x35]).getD i undef), x35, by kernel_rfl, HA_5, H⟩
    · refine ls_skip (d := some 33) (by kernel_rfl) (by rw [hb_5]; kernel_rfl) ?_
      refine ls_skip (d := some 34) (by kernel_rfl) (by rw [hb_5]; kernel_rfl) ?_
      refine ls_skip (d := some 35) (by kernel_rfl) (by rw [hb_5]; kernel_rfl) ?_
      refine ls_fr (b := ⟨#[(.bool false), x10, x17, x18, x19, x23, x24, x28, x29, x9, x10, x10, x12, x16, x10, x15, x16, x17, x18, x19, x22, x10, x22, x23, x24, x27, x10, x27, x28, x29, x17, x31, x31, undef, undef, undef, undef, undef, undef, undef, undef, undef, undef, undef, undef, undef, undef, undef, undef, undef, undef, undef, undef, undef, undef, undef, undef, undef, undef], []⟩) (by kernel_rfl) ?_
      refine ls_pick_f (y := (.bool false)) (by kernel_rfl) (by rw [hb_5]; kernel_rfl) (by kernel_rfl) ?_
      refine ls_nil ?_
      refine then_normal ?_
      exact ⟨(fun i => ([undef, undef, undef]).getD i undef), (.bool false), by kernel_rfl, HA_5, H⟩
    · rintro _ w_6 ⟨D, x36, rfl, HA_6, H⟩
      refine ls_move (x := x36) (by kernel_rfl) (by kernel_rfl) ?_
      refine ls_and [(), (), ()] (fun K a w => ∃ (D_1 : Nat → Value) (x40 : Value), a = ⟨#[(.bool false), x10, x17, x18, x19, x23, x24, x28, x29, x9, x10, x10, x12, x16, x10, x15, x16, x17, x18, x19, x22, x10, x22, x23, x24, x27, x10, x27, x28, x29, x17, x31, x31, (D 0), (D 1), (D 2), x36, x36, (D_1 0), (D_1 1), x40, undef, undef, undef, undef, undef, undef, undef, undef, undef, undef, undef, undef, undef, undef, undef, undef, undef, undef], []⟩ ∧ At w0 w h_5 ∧ K x40) H (fun hb_4 H => ?_) (fun hb_4 H => ?_) ?_
      · refine ls_move (x := x19) (by rw [hb_4]; kernel_rfl) (by kernel_rfl) ?_
        refine ls_p (d := some 39) (by kernel_rfl) (by rw [hb_4]; kernel_rfl) (p_sEq (by kernel_rfl) (by kernel_rfl) H) (fun x39 H => ?_)
        refine ls_pick_t (x := x39) (by kernel_rfl) (by rw [hb_4]; kernel_rfl) (by kernel_rfl) ?_
        refine ls_nil ?_
        refine then_normal ?_
        exact ⟨(fun i => ([x19, x39]).getD i undef), x39, by kernel_rfl, HA_6, H⟩
      · refine ls_skip (d := some 38) (by kernel_rfl) (by rw [hb_4]; kernel_rfl) ?_
        refine ls_skip (d := some 39) (by kernel_rfl) (by rw [hb_4]; kernel_rfl) ?_
        refine ls_pick_f (y := (.bool false)) (by kernel_rfl) (by rw [hb_4]; kernel_rfl) (by kernel_rfl) ?_
        refine ls_nil ?_
        refine then_normal ?_
        exact ⟨(fun i => ([undef, undef]).getD i undef), (.bool false), by kernel_rfl, HA_6, H⟩
      · rintro _ w_7 ⟨D_1, x40, rfl, HA_7, H⟩
        refine ls_move (x := x40) (by kernel_rfl) (by kernel_rfl) ?_
        refine ls_and [(), (), ()] (fun K a w => ∃ (D_2 : Nat → Value) (x44 : Value), a = ⟨#[(.bool false), x10, x17, x18, x19, x23, x24, x28, x29, x9, x10, x10, x12, x16, x10, x15, x16, x17, x18, x19, x22, x10, x22, x23, x24, x27, x10, x27, x28, x29, x17, x31, x31, (D 0), (D 1), (D 2), x36, x36, (D_1 0), (D_1 1), x40, x40, (D_2 0), (D_2 1), x44, undef, undef, undef, undef, undef, undef, undef, undef, undef, undef, undef, undef, undef, undef], []⟩ ∧ At w0 w h_5 ∧ K x44) H (fun hb_3 H => ?_) (fun hb_3 H => ?_) ?_
        · refine ls_move (x := x24) (by rw [hb_3]; kernel_rfl) (by kernel_rfl) ?_
          refine ls_p (d := some 43) (by kernel_rfl) (by rw [hb_3]; kernel_rfl) (p_sEq (by kernel_rfl) (by kernel_rfl) H) (fun x43 H => ?_)
          refine ls_pick_t (x := x43) (by kernel_rfl) (by rw [hb_3]; kernel_rfl) (by kernel_rfl) ?_
          refine ls_nil ?_
          refine then_normal ?_
          exact ⟨(fun i => ([x24, x43]).getD i undef), x43, by kernel_rfl, HA_7, H⟩
        · refine ls_skip (d := some 42) (by kernel_rfl) (by rw [hb_3]; kernel_rfl) ?_
          refine ls_skip (d := some 43) (by kernel_rfl) (by rw [hb_3]; kernel_rfl) ?_
          refine ls_pick_f (y := (.bool false)) (by kernel_rfl) (by rw [hb_3]; kernel_rfl) (by kernel_rfl) ?_
          refine ls_nil ?_
          refine then_normal ?_
          exact ⟨(fun i => ([undef, undef]).getD i undef), (.bool false), by kernel_rfl, HA_7, H⟩
        · rintro _ w_8 ⟨D_2, x44, rfl, HA_8, H⟩
          refine ls_move (x := x44) (by kernel_rfl) (by kernel_rfl) ?_
          refine ls_and [(), (), ()] (fun K a w => ∃ (D_3 : Nat → Value) (x48 : Value), a = ⟨#[(.bool false), x10, x17, x18, x19, x23, x24, x28, x29, x9, x10, x10, x12, x16, x10, x15, x16, x17, x18, x19, x22, x10, x22, x23, x24, x27, x10, x27, x28, x29, x17, x31, x31, (D 0), (D 1), (D 2), x36, x36, (D_1 0), (D_1 1), x40, x40, (D_2 0), (D_2 1), x44, x44, (D_3 0), (D_3 1), x48, undef, undef, undef, undef, undef, undef, undef, undef, undef, undef], []⟩ ∧ At w0 w h_5 ∧ K x48) H (fun hb_2 H => ?_) (fun hb_2 H => ?_) ?_
          · refine ls_move (x := x29) (by rw [hb_2]; kernel_rfl) (by kernel_rfl) ?_
            refine ls_p (d := some 47) (by kernel_rfl) (by rw [hb_2]; kernel_rfl) (p_sEq (by kernel_rfl) (by kernel_rfl) H) (fun x47 H => ?_)
            refine ls_pick_t (x := x47) (by kernel_rfl) (by rw [hb_2]; kernel_rfl) (by kernel_rfl) ?_
            refine ls_nil ?_
            refine then_normal ?_
            exact ⟨(fun i => ([x29, x47]).getD i undef), x47, by kernel_rfl, HA_8, H⟩
          · refine ls_skip (d := some 46) (by kernel_rfl) (by rw [hb_2]; kernel_rfl) ?_
            refine ls_skip (d := some 47) (by kernel_rfl) (by rw [hb_2]; kernel_rfl) ?_
            refine ls_pick_f (y := (.bool false)) (by kernel_rfl) (by rw [hb_2]; kernel_rfl) (by kernel_rfl) ?_
            refine ls_nil ?_
            refine then_normal ?_
            exact ⟨(fun i => ([undef, undef]).getD i undef), (.bool false), by kernel_rfl, HA_8, H⟩
          · rintro _ w_9 ⟨D_3, x48, rfl, HA_9, H⟩
            refine ls_move (x := x48) (by kernel_rfl) (by kernel_rfl) ?_
            refine ls_andh [(), (), (), ()] (fun K a w => ∃ (D_4 : Nat → Value) (x53 : Value) (h_6 : Heap), a = ⟨#[(.bool false), x10, x17, x18, x19, x23, x24, x28, x29, x9, x10, x10, x12, x16, x10, x15, x16, x17, x18, x19, x22, x10, x22, x23, x24, x27, x10, x27, x28, x29, x17, x31, x31, (D 0), (D 1), (D 2), x36, x36, (D_1 0), (D_1 1), x40, x40, (D_2 0), (D_2 1), x44, x44, (D_3 0), (D_3 1), x48, x48, (D_4 0), (D_4 1), (D_4 2), x53, undef, undef, undef, undef, undef], []⟩ ∧ At w0 w h_6 ∧ K x53 h_6) H (fun hb_1 H => ?_) (fun hb_1 H => ?_) ?_
            · refine ls_move (x := x23) (by rw [hb_1]; kernel_rfl) (by kernel_rfl) ?_
              refine ls_d (d := some 51) (by kernel_rfl) (by rw [hb_1]; kernel_rfl) HA_9 (d_slit (zc := #[.int .u8 0]) Try.underlying30 Try.sizeOf5 (by decide) (.inr ⟨by decide, _, Try.zeroValue5, (by kernel_rfl)⟩) (by kernel_rfl) (by kernel_rfl) H) (fun x51 h_10 w_14 H HA_14 => ?_)
              refine ls_d (d := some 52) (by kernel_rfl) (by rw [hb_1]; kernel_rfl) HA_14 (d_call (by kernel_rfl) (by kernel_rfl) H) (fun x52 h_11 w_15 H HA_15 => ?_)
              refine ls_pick_t (x := x52) (by kernel_rfl) (by rw [hb_1]; kernel_rfl) (by kernel_rfl) ?_
              refine ls_nil ?_
              refine then_normal ?_
              exact ⟨(fun i => ([x23, x51, x52]).getD i undef), x52, h_11, by kernel_rfl, HA_15, H⟩
            · refine ls_skip (d := some 50) (by kernel_rfl) (by rw [hb_1]; kernel_rfl) ?_
              refine ls_skip (d := some 51) (by kernel_rfl) (by rw [hb_1]; kernel_rfl) ?_
              refine ls_skip (d := some 52) (by kernel_rfl) (by rw [hb_1]; kernel_rfl) ?_
              refine ls_pick_f (y := (.bool false)) (by kernel_rfl) (by rw [hb_1]; kernel_rfl) (by kernel_rfl) ?_
              refine ls_nil ?_
              refine then_normal ?_
              exact ⟨(fun i => ([undef, undef, undef]).getD i undef), (.bool false), h_5, by kernel_rfl, HA_9, H⟩
            · rintro _ w_10 ⟨D_4, x53, h_6, rfl, HA_10, H⟩
              refine ls_move (x := x53) (by kernel_rfl) (by kernel_rfl) ?_
              refine ls_andh [(), (), (), ()] (fun K a w => ∃ (D_5 : Nat → Value) (x58 : Value) (h_7 : Heap), a = ⟨#[(.bool false), x10, x17, x18, x19, x23, x24, x28, x29, x9, x10, x10, x12, x16, x10, x15, x16, x17, x18, x19, x22, x10, x22, x23, x24, x27, x10, x27, x28, x29, x17, x31, x31, (D 0), (D 1), (D 2), x36, x36, (D_1 0), (D_1 1), x40, x40, (D_2 0), (D_2 1), x44, x44, (D_3 0), (D_3 1), x48, x48, (D_4 0), (D_4 1), (D_4 2), x53, x53, (D_5 0), (D_5 1), (D_5 2), x58], []⟩ ∧ At w0 w h_7 ∧ K x58 h_7) H (fun hb H => ?_) (fun hb H => ?_) ?_
              · refine ls_move (x := x28) (by rw [hb]; kernel_rfl) (by kernel_rfl) ?_
                refine ls_d (d := some 56) (by kernel_rfl) (by rw [hb]; kernel_rfl) HA_10 (d_slit (zc := #[.int .u8 0]) Try.underlying30 Try.sizeOf5 (by decide) (.inr ⟨by decide, _, Try.zeroValue5, (by kernel_rfl)⟩) (by kernel_rfl) (by kernel_rfl) H) (fun x56 h_8 w_12 H HA_12 => ?_)
                refine ls_d (d := some 57) (by kernel_rfl) (by rw [hb]; kernel_rfl) HA_12 (d_call (by kernel_rfl) (by kernel_rfl) H) (fun x57 h_9 w_13 H HA_13 => ?_)
                refine ls_pick_t (x := x57) (by kernel_rfl) (by rw [hb]; kernel_rfl) (by kernel_rfl) ?_
                refine ls_nil ?_
                refine then_normal ?_
                exact ⟨(fun i => ([x28, x56, x57]).getD i undef), x57, h_9, by kernel_rfl, HA_13, H⟩
              · refine ls_skip (d := some 55) (by kernel_rfl) (by rw [hb]; kernel_rfl) ?_
                refine ls_skip (d := some 56) (by kernel_rfl) (by rw [hb]; kernel_rfl) ?_
                refine ls_skip (d := some 57) (by kernel_rfl) (by rw [hb]; kernel_rfl) ?_
                refine ls_pick_f (y := (.bool false)) (by kernel_rfl) (by rw [hb]; kernel_rfl) (by kernel_rfl) ?_
                refine ls_nil ?_
                refine then_normal ?_
                exact ⟨(fun i => ([undef, undef, undef]).getD i undef), (.bool false), h_6, by kernel_rfl, HA_10, H⟩
              · rintro _ w_11 ⟨D_5, x58, h_7, rfl, HA_11, H⟩
                refine ls_assign (x := x58) (by kernel_rfl) (by kernel_rfl) ?_
                refine ls_nil ?_
                refine then_normal ?_
                refine fr_eq (b := ⟨#[x58, x10, x17, x18, x19, x23, x24, x28, x29, x9, x10, x10, x12, x16, x10, x15, x16, x17, x18, x19, x22, x10, x22, x23, x24, x27, x10, x27, x28, x29, x17, x31, x31, (D 0), (D 1), (D 2), x36, x36, (D_1 0), (D_1 1), x40, x40, (D_2 0), (D_2 1), x44, x44, (D_3 0), (D_3 1), x48, x48, (D_4 0), (D_4 1), (D_4 2), x53, x53, (D_5 0), (D_5 1), (D_5 2), x58], []⟩) (by kernel_rfl) ?_
                refine wp_ret ?_
                exact end1 (Try.results32) (by kernel_rfl) (by kernel_rfl) HA_11 H _ (.inr rfl)

end Go.Proofs.Ytlcklnbgknhhkaa

end

section
/- Pseudo-terminals: what is written; a new one; sizes; the example. -/
set_option linter.unusedSimpArgs false
set_option linter.unusedVariables false
namespace Go.Proofs.Ytlcklnbgknhhkaa
open Go Go.HW

section
variable {h0 h : Heap} {F : List HP} {R : Value → Heap → Prop} {k kd : Nat} {p : P} {d : D}
theorem writes_snoc (p : P) (o x : Int) (l : List Int) : p.writes o (l ++ [x]) = ((p.writes o l).write o x).1 := by unfold P.writes; rw [List.foldl_append]; rfl
theorem mw_spec {u : Value} {l : List Int} (q : ∀ (G : List HP) (h' : Heap), HW.Sep h0 (G ++ F) h' → Ints .u8 h' u l) (hl : ∀ c ∈ l, 0 ≤ c ∧ c < 256) (hn : l.length ≤ 1000) (hb : d.wt ≤ 100000) (hp : p.out.length ≤ 4096) (s : HW.Sep h0 (Pc k kd p :: Dc kd d :: F) h)
    (H : ∀ v h', HW.Sep h0 (Sl (encI .i64) 1 v (mwL l (p, d, [])).2.2 :: Pc k kd (mwL l (p, d, [])).1 :: Dc kd (mwL l (p, d, [])).2.1 :: F) h' → R (.tuple #[.int .i64 l.length, v, .int .i64 0]) h') : pty_Pair_MasterWrite_c (ptr k 0) u h R := by
  apply pty_Pair_MasterWrite_runs
  unfold pty_Pair_MasterWrite_S
  obtain ⟨ov, b⟩ := Phas s
  have f7 : ∀ {K : Value → Prop}, sLd h (ptr k 7) K = K (.bool false) := ev_ld_has b rfl
  have f8 : ∀ {K : Value → Prop}, sLd h (ptr k 8) K = K (.bool false) := ev_ld_has b rfl
  have la : ∀ {K : Value → Prop}, sLen u K = K (.int .i64 l.length) := fun {K} => (q [_, _] _ s).len
  rw [ev_nil, ev_off, Nat.zero_add, f7, ev_if, if_neg (by decide), ev_nil, ev_off, Nat.zero_add, f8, ev_if, if_neg (by decide), la]
  refine ⟨fun t h' => ∃ (i : Nat) (v : Value), i ≤ l.length ∧ t = (v, .int .i64 i) ∧ HW.Sep h0 (Sl (encI .i64) 1 v (mwL (l.take i) (p, d, [])).2.2 :: Pc k kd (mwL (l.take i) (p, d, [])).1 :: Dc kd (mwL (l.take i) (p, d, [])).2.1 :: F) h', fun t _ => match t.2 with | .int _ i => (l.length - i).toNat | _ => 0, ⟨0, .slice none 0 0, Nat.zero_le _, rfl, sep_nil s⟩, ?_⟩
  rintro _ h1 ⟨i, v, hi, rfl, s1⟩
  simp only []
  unfold pty_Pair_MasterWrite_l1
  rw [ev_lt, ev_if]
  by_cases hlt : i < l.length
  · rw [if_pos (decide_eq_true (by omega))]
    have hg : l[i]? = some l[i] := List.getElem?_eq_getElem hlt
    have hc := hl l[i] (List.getElem_mem hlt)
    have ht : l.take (i + 1) = l.take i ++ [l[i]] := by rw [List.take_add_one, hg]; rfl
    generalize l[i] = c at hg hc ht
    have hw := mwL_wt (l.take i) (p, d, [])
    have hbw := mwL_bw (l.take i) (p, d, [])
    have hpl := mwL_len (l.take i) (p, d, []) hp
    have e : mwL (l.take (i + 1)) (p, d, []) = mwL [c] (mwL (l.take i) (p, d, [])) := by rw [ht, mwL_app]
    rw [List.length_take] at hw hbw
    generalize mwL (l.take i) (p, d, []) = x at s1 hw hbw hpl e
    obtain ⟨p1, d1, sg⟩ := x
    rw [mwL, mwL] at e
    simp only at s1 hw hbw hpl e
    simp only [List.length_nil] at hbw
    have ib := input_bw d1 c
    have we := wt_eq d1
    rw [Seq.ld (q [_, _, _] _ s1) hg rfl]
    obtain ⟨ov1, so1⟩ := Popen s1.b1
    have b1 := so1.has
    have f0 : ∀ {h' : Heap}, Ext h1 h' → ∀ {K : Value → Prop}, sLd h' (ptr k 0) K = K (ptr kd 0) := by intro h' e K; exact ev_ld_has (e.has b1) rfl
    obtain ⟨lv, sv, rv, ev, bd, _, _, _⟩ := lens s1.b2
    rw [ev_nil, ev_off, Nat.zero_add, f0 (Ext.refl _)]
    refine stopped_b bd ?_
    rw [ev_nil, ev_off, Nat.zero_add, f0 (Ext.refl _)]
    refine input_o s1.b2 hc (by omega) (fun lv sv rv ev rs h2 ers s2 => ?_)
    rw [tup0, tup1]
    generalize hd2 : (d1.input c).1 = d2 at s2 e ib ers
    generalize (d1.input c).2 = sig at e
    -- the rest of the heap
    have s3 : HW.Sep h0 (Pc k kd p1 :: Blk kd (dC d2 lv sv rv ev) 72 :: Sl (encI .u8) 1 lv d2.ln :: Sl encCV 1 sv (rs.map (·.1)) :: rowsU rs :: Sl (encI .u8) 1 rv d2.ra :: Sl (encI .u8) 1 ev d2.ec :: Sl (encI .i64) 1 v sg :: F) h2 := selF (L := [_, _, _, _, _, _, _, _]) s2 [7, 0, 1, 2, 3, 4, 5, 6] rfl (by decide)
    have lev : ∀ {K : Value → Prop}, sLen ev K = K (.int .i64 d2.ec.length) := fun {K} => s3.b6.seq.len
    rw [lev]
    have hdd : ∀ L h', HW.Sep h0 (L ++ (Blk kd (dC d2 lv sv rv ev) 72 :: Sl (encI .u8) 1 lv d2.ln :: Sl encCV 1 sv (rs.map (·.1)) :: rowsU rs :: Sl (encI .u8) 1 rv d2.ra :: Sl (encI .u8) 1 ev d2.ec :: Sl (encI .i64) 1 v sg :: F)) h' → h'.has kd (dC d2 lv sv rv ev) 72 := fun L h' s' => (s'.perm List.perm_middle).has
    refine ⟨fun t h' => ∃ j : Nat, j ≤ d2.ec.length ∧ t = .int .i64 j ∧ HW.Sep h0 (Pc k kd (p1.writes d2.t.o (d2.ec.take j)) :: Blk kd (dC d2 lv sv rv ev) 72 :: Sl (encI .u8) 1 lv d2.ln :: Sl encCV 1 sv (rs.map (·.1)) :: rowsU rs :: Sl (encI .u8) 1 rv d2.ra :: Sl (encI .u8) 1 ev d2.ec :: Sl (encI .i64) 1 v sg :: F) h', fun t _ => match t with | .int _ j => (d2.ec.length - j).toNat | _ => 0, ⟨0, Nat.zero_le _, rfl, s3⟩, ?_⟩
    rintro _ h3 ⟨j, hj, rfl, s4⟩
    simp only []
    unfold pty_Pair_MasterWrite_l3
    rw [ev_lt, ev_if]
    have hpw := writes_len d2.t.o (d2.ec.take j) p1 hpl
    by_cases hjt : j < d2.ec.length
    · rw [if_pos (decide_eq_true (by omega))]
      have hg2 : d2.ec[j]? = some d2.ec[j] := List.getElem?_eq_getElem hjt
      have ht2 : d2.ec.take (j + 1) = d2.ec.take j ++ [d2.ec[j]] := by rw [List.take_add_one, hg2]; rfl
      generalize d2.ec[j] = y at hg2 ht2
      rw [Seq.ld s4.b6.seq hg2 rfl]
      refine pwrite_spec s4 hdd hpw (fun h4 s5 => ?_)
      rw [ev_add, wrap_i64 (by omega) (by omega)]
      refine ⟨⟨j + 1, hjt, by rw [Int.natCast_add]; rfl, ?_⟩, by simp only; omega⟩
      rw [ht2, writes_snoc]; exact s5
    have : j = d2.ec.length := by omega
    subst this
    rw [List.take_of_length_le (Nat.le_refl _)] at s4 hpw
    rw [if_neg (by simp), ev_not]
    have bd2 : h3.has kd (dC d2 lv sv rv ev) 72 := hdd [_] _ s4
    obtain ⟨ov3, b3⟩ := Phas s4
    have g0 : ∀ {h' : Heap}, Ext h3 h' → ∀ {K : Value → Prop}, sLd h' (ptr k 0) K = K (ptr kd 0) := by intro h' e K; exact ev_ld_has (e.has b3) rfl
    refine and_ext (y := d2.st) (fun _ K' HK => by
      rw [ev_nil, ev_off, Nat.zero_add, g0 (Ext.refl _)]
      exact stopped_b bd2 (HK _ (Ext.refl _))) (fun h4 e4 => ?_)
    have s5 := s4.ext' e4
    refine flag_no s5 ?_
    refine and_ext (y := !d2.st) (fun _ K' HK => by
      rw [ev_nil, ev_off, Nat.zero_add, g0 e4]
      exact stopped_b (e4.has bd2) (by rw [ev_not]; exact HK _ (Ext.refl _))) (fun h5 e5 => ?_)
    have s6 := s5.ext' e5
    refine flag_no s6 ?_
    have back : ∀ {h' : Heap} {v' : Value} {sg' : List Int}, HW.Sep h0 (Pc k kd (p1.writes d2.t.o d2.ec) :: Blk kd (dC d2 lv sv rv ev) 72 :: Sl (encI .u8) 1 lv d2.ln :: Sl encCV 1 sv (rs.map (·.1)) :: rowsU rs :: Sl (encI .u8) 1 rv d2.ra :: Sl (encI .u8) 1 ev d2.ec :: Sl (encI .i64) 1 v' sg' :: F) h' → HW.Sep h0 (Sl (encI .i64) 1 v' sg' :: Pc k kd (p1.writes d2.t.o d2.ec) :: Dc kd d2 :: F) h' := by
      intro h' v' sg' s'
      have s'' := selF (L := [_, _, _, _, _, _, _, _]) s' [1, 2, 3, 4, 5, 6, 7, 0] rfl (by decide)
      exact (Dshut (d := d2) ers s'').p2
    unfold pty_Pair_MasterWrite_j2
    rw [ev_ne, ev_if]
    by_cases hs : sig ≠ 0
    · rw [if_pos hs] at e
      rw [if_pos (by simpa using hs)]
      have s7 : HW.Sep h0 (Sl (encI .i64) 1 v sg :: Pc k kd (p1.writes d2.t.o d2.ec) :: Blk kd (dC d2 lv sv rv ev) 72 :: Sl (encI .u8) 1 lv d2.ln :: Sl encCV 1 sv (rs.map (·.1)) :: rowsU rs :: Sl (encI .u8) 1 rv d2.ra :: Sl (encI .u8) 1 ev d2.ec :: F) h5 := selF (L := [_, _, _, _, _, _, _, _]) s6 [7, 0, 1, 2, 3, 4, 5, 6] rfl (by decide)
      refine s7.slit (enc := encI .i64) (sz := 1) (encI_len .i64) [sig] rfl ⟨rfl, Nat.le_of_ble_eq_true rfl, rfl⟩ (fun v6 h6 cv6 s8 => ?_)
      refine s8.b1.app (enc := encI .i64) (sz := 1) rfl (by decide) (encI_len .i64) (encI_cell .i64) s8.seq (by simp only [List.length_cons, List.length_nil]; omega) (by decide) (fun v7 h7 cv7 s9 => ?_)
      have s10 := s9.drop1
      have s11 : HW.Sep h0 (Pc k kd (p1.writes d2.t.o d2.ec) :: Blk kd (dC d2 lv sv rv ev) 72 :: Sl (encI .u8) 1 lv d2.ln :: Sl encCV 1 sv (rs.map (·.1)) :: rowsU rs :: Sl (encI .u8) 1 rv d2.ra :: Sl (encI .u8) 1 ev d2.ec :: Sl (encI .i64) 1 v7 (sg ++ [sig]) :: F) h7 := selF (L := [_, _, _, _, _, _, _, _]) s10 [1, 2, 3, 4, 5, 6, 7, 0] rfl (by decide)
      obtain ⟨ov7, b7⟩ := Phas s11
      have g7 : ∀ {K : Value → Prop}, sLd h7 (ptr k 0) K = K (ptr kd 0) := ev_ld_has b7 rfl
      have bd7 : h7.has kd (dC d2 lv sv rv ev) 72 := s11.b1.has
      rw [ev_nil, ev_off, Nat.zero_add, g7]
      refine setting_b bd7 (fun h8 e8 => ?_)
      rw [fldl, ev_bits, ev_eq]
      refine flag_no (s11.ext' e8) ?_
      rw [ev_add, wrap_i64 (by omega) (by omega)]
      refine ⟨⟨i + 1, v7, hlt, by rw [Int.natCast_add]; rfl, ?_⟩, by simp only; omega⟩
      rw [e]; exact back (s11.ext' e8)
    · rw [if_neg hs] at e
      rw [if_neg (by simpa using hs), ev_add, wrap_i64 (by omega) (by omega)]
      refine ⟨⟨i + 1, v, hlt, by rw [Int.natCast_add]; rfl, ?_⟩, by simp only; omega⟩
      rw [e]; exact back s6
  · have : i = l.length := by omega
    subst this
    rw [List.take_of_length_le (Nat.le_refl _)] at s1
    rw [if_neg (by simp), la]
    exact H v h1 s1
theorem swrite_spec {u : Value} {l : List Int} (q : ∀ (G : List HP) (h' : Heap), HW.Sep h0 (G ++ F) h' → Ints .u8 h' u l) (hst : d.st = false) (hn : l.length ≤ 1000) (hp : p.out.length ≤ 4096) (hf : ∀ i c, l[i]? = some c → ((p.writes d.t.o (l.take i)).write d.t.o c).2 = true) (s : HW.Sep h0 (Pc k kd p :: Dc kd d :: F) h)
    (H : ∀ h', HW.Sep h0 (Pc k kd (p.writes d.t.o l) :: Dc kd d :: F) h' → R (.tuple #[.int .i64 l.length, .int .i64 0]) h') : pty_Pair_SlaveWrite_c (ptr k 0) u h R := by
  apply pty_Pair_SlaveWrite_runs
  unfold pty_Pair_SlaveWrite_S
  obtain ⟨ov, b⟩ := Phas s
  have f7 : ∀ {K : Value → Prop}, sLd h (ptr k 7) K = K (.bool false) := ev_ld_has b rfl
  have f8 : ∀ {K : Value → Prop}, sLd h (ptr k 8) K = K (.bool false) := ev_ld_has b rfl
  have f0 : ∀ {K : Value → Prop}, sLd h (ptr k 0) K = K (ptr kd 0) := ev_ld_has b rfl
  have la : ∀ {K : Value → Prop}, sLen u K = K (.int .i64 l.length) := fun {K} => (q [_, _] _ s).len
  obtain ⟨lv, sv, rv, ev, rs, ers, so⟩ := Dopen s.b1
  rw [ev_nil, ev_off, Nat.zero_add, f8, ev_if, if_neg (by decide), ev_nil, ev_off, Nat.zero_add, f7, ev_if, if_neg (by decide), la, ev_gt]
  refine and_ext (y := false) (fun _ K' HK => by
    rw [ev_nil, ev_off, Nat.zero_add, f0]
    exact stopped_b so.has (by rw [hst]; exact HK _ (Ext.refl _))) (fun h1 e1 => ?_)
  rw [Bool.and_false, ev_if, if_neg (by decide), la]
  have hdd : ∀ L h', HW.Sep h0 (L ++ (Blk kd (dC d lv sv rv ev) 72 :: Sl (encI .u8) 1 lv d.ln :: Sl encCV 1 sv (rs.map (·.1)) :: rowsU rs :: Sl (encI .u8) 1 rv d.ra :: Sl (encI .u8) 1 ev d.ec :: F)) h' → h'.has kd (dC d lv sv rv ev) 72 := fun L h' s' => (s'.perm List.perm_middle).has
  have s2 : HW.Sep h0 (Pc k kd p :: Blk kd (dC d lv sv rv ev) 72 :: Sl (encI .u8) 1 lv d.ln :: Sl encCV 1 sv (rs.map (·.1)) :: rowsU rs :: Sl (encI .u8) 1 rv d.ra :: Sl (encI .u8) 1 ev d.ec :: F) h1 := (selF (L := [_, _, _, _, _, _, _]) so [6, 0, 1, 2, 3, 4, 5] rfl (by decide)).ext' e1
  refine ⟨fun t h' => ∃ i : Nat, i ≤ l.length ∧ t = .int .i64 i ∧ HW.Sep h0 (Pc k kd (p.writes d.t.o (l.take i)) :: Blk kd (dC d lv sv rv ev) 72 :: Sl (encI .u8) 1 lv d.ln :: Sl encCV 1 sv (rs.map (·.1)) :: rowsU rs :: Sl (encI .u8) 1 rv d.ra :: Sl (encI .u8) 1 ev d.ec :: F) h', fun t _ => match t with | .int _ i => (l.length - i).toNat | _ => 0, ⟨0, Nat.zero_le _, rfl, s2⟩, ?_⟩
  rintro _ h2 ⟨i, hi, rfl, s3⟩
  simp only []
  unfold pty_Pair_SlaveWrite_l1
  rw [ev_lt, ev_if]
  by_cases hlt : i < l.length
  · rw [if_pos (decide_eq_true (by omega))]
    have hg : l[i]? = some l[i] := List.getElem?_eq_getElem hlt
    have ht : l.take (i + 1) = l.take i ++ [l[i]] := by rw [List.take_add_one, hg]; rfl
    generalize l[i] = c at hg ht
    rw [Seq.ld (q [_, _, _, _, _, _, _] _ s3) hg rfl]
    refine pwrite_spec s3 hdd (writes_len _ _ _ hp) (fun h3 s4 => ?_)
    rw [hf i c hg, ev_if, if_pos rfl, ev_add, wrap_i64 (by omega) (by omega)]
    refine ⟨⟨i + 1, hlt, by rw [Int.natCast_add]; rfl, ?_⟩, by simp only; omega⟩
    rw [ht, writes_snoc]; exact s4
  · have : i = l.length := by omega
    subst this
    rw [List.take_of_length_le (Nat.le_refl _)] at s3
    rw [if_neg (by simp), la]
    refine H h2 ?_
    exact (Dshut (d := d) ers (selF (L := [_, _, _, _, _, _, _]) s3 [1, 2, 3, 4, 5, 6, 0] rfl (by decide))).b1
theorem pnew_spec {t : Tm} (ht : t.right = true) (s : HW.Sep h0 F h) (H : ∀ k kd h', HW.Sep h0 (Pc k kd P0 :: Dc kd (D0 t) :: F) h' → R (ptr k 0) h') : pty_New_c t.v h R := by
  apply pty_New_runs
  unfold pty_New_S
  refine s.box (c := t.c) rfl (fun k1 h1 s1 => ?_)
  rw [s1.ldall (n := 17) rfl]
  refine new_spec (t := t) s1 (fun hf => by rw [ht] at hf; cases hf) (fun _ kd h2 s2 => ?_)
  have ee : ∀ {k : Nat} {K : Value → Prop}, sEqlNil (ptr k 0) K = K (.bool false) := by intro k K; simp only [ptr, ev_eqlNil, Option.isNone_some]
  rw [ee, ev_if, if_neg (by decide)]
  refine build_intro (cs := pC P0 kd (.slice none 0 0)) ⟨rfl, Nat.le_of_ble_eq_true rfl, rfl, Nat.le_of_ble_eq_true rfl, rfl, Nat.le_of_ble_eq_true rfl, rfl⟩ ?_
  refine s2.drop1.box (c := pC P0 kd (.slice none 0 0)) rfl (fun k h3 s3 => ?_)
  exact H k kd h3 (Pshut (p := P0) (sep_nil s3).b1)
theorem resize_spec {w' g' : Int} (s : HW.Sep h0 (Pc k kd p :: F) h) (H : ∀ h', HW.Sep h0 (Pc k kd (if 1 ≤ w' ∧ w' ≤ 512 ∧ 1 ≤ g' ∧ g' ≤ 512 then { p with w := w', h := g' } else p) :: F) h' → R (if 1 ≤ w' ∧ w' ≤ 512 ∧ 1 ≤ g' ∧ g' ≤ 512 then .tuple #[.bool (w' != p.w || g' != p.h), .int .i64 0] else .tuple #[.bool false, .int .i64 2]) h') : pty_Pair_Resize_c (ptr k 0) (.int .i64 w') (.int .i64 g') h R := by
  apply pty_Pair_Resize_runs
  unfold pty_Pair_Resize_S
  simp only [ev_lt, ev_gt, ev_or_p, ev_if]
  by_cases hc : 1 ≤ w' ∧ w' ≤ 512 ∧ 1 ≤ g' ∧ g' ≤ 512
  · rw [if_pos hc, if_pos hc] at H
    rw [if_neg (by simp; omega)]
    obtain ⟨ov, so⟩ := Popen s
    have f3 : ∀ {K : Value → Prop}, sLd h (ptr k 3) K = K (.int .i64 p.w) := so.ld rfl
    have f4 : ∀ {K : Value → Prop}, sLd h (ptr k 4) K = K (.int .i64 p.h) := so.ld rfl
    simp only [ev_nil, ev_off, Nat.zero_add, f3, f4, ev_ne, ev_or_p]
    refine so.st (Nat.le_of_ble_eq_true rfl) trivial (fun h1 s1 => ?_)
    refine s1.st (Nat.le_of_ble_eq_true rfl) trivial (fun h2 s2 => ?_)
    exact H h2 (Pshut (p := { p with w := w', h := g' }) s2)
  · rw [if_neg hc, if_neg hc] at H
    rw [if_pos (by simp; omega)]
    exact H h s
theorem psize_spec (s : HW.Sep h0 (Pc k kd p :: F) h) (H : R (.tuple #[.int .i64 p.w, .int .i64 p.h]) h) : pty_Pair_Size_c (ptr k 0) h R := by
  apply pty_Pair_Size_runs
  unfold pty_Pair_Size_S
  obtain ⟨ov, so⟩ := Popen s
  have f3 : ∀ {K : Value → Prop}, sLd h (ptr k 3) K = K (.int .i64 p.w) := so.ld rfl
  have f4 : ∀ {K : Value → Prop}, sLd h (ptr k 4) K = K (.int .i64 p.h) := so.ld rfl
  simp only [ev_nil, ev_off, Nat.zero_add, f3, f4]
  exact H
theorem sread2_spec {n : Int} (hn : 1 ≤ n) (hb : d.wt ≤ 300000000) (s : HW.Sep h0 (Pc k kd p :: Dc kd d :: F) h) (H : ∀ v h', HW.Sep h0 (Sl (encI .u8) 1 v (d.read n).2.1 :: Pc k kd p :: Dc kd (d.read n).1 :: F) h' → R (.tuple #[v, .int .i64 (if (d.read n).2.1 = [] ∧ (d.read n).2.2 = false then 12 else 0)]) h') : pty_Pair_SlaveRead_c (ptr k 0) (.int .i64 n) h R :=
  sread_spec hn hb s (fun v h' s' => by
    by_cases hc : (d.read n).2.1 = [] ∧ (d.read n).2.2 = false
    · exact .inr hc
    · have := H v h' s'
      rw [if_neg hc] at this
      exact .inl this) (fun h' e1 e2 s' => by
    have := H (.slice none 0 0) h' (by rw [e1]; exact sep_nil s')
    rw [if_pos ⟨e1, e2⟩] at this
    exact this)
theorem pread_eq {p : P} {n : Int} (hn : 1 ≤ n) : p.read n = ({ p with out := p.out.drop (min n.toNat p.out.length) }, p.out.take (min n.toNat p.out.length), if p.out.take (min n.toNat p.out.length) = [] then 12 else 0) := by
  unfold P.read
  obtain ⟨out, col, w, g⟩ := p
  cases out with
  | nil => simp
  | cons a l =>
    rw [if_neg (by simp), if_neg (by
      intro e
      have := congrArg List.length e
      simp only [List.length_take, List.length_cons, List.length_nil] at this
      omega)]
theorem awake22 (H : ∀ h', Ext h h' → R (.bool true) h') : betonylaw22_awake_c h R := by
  apply betonylaw22_awake_runs
  unfold betonylaw22_awake_S
  refine rplain_spec (fun h1 e1 => ?_)
  refine pnew_spec (t := plainT) (by decide +kernel) ((HW.Sep.start h).ext' e1) (fun k kd h2 s2 => ?_)
  have ee : ∀ {k : Nat} {K : Value → Prop}, sEqlNil (ptr k 0) K = K (.bool false) := by intro k K; simp only [ptr, ev_eqlNil, Option.isNone_some]
  rw [ee, ev_if, if_neg (by decide)]
  refine s2.slit (enc := encI .u8) (sz := 1) (encI_len .u8) [104, 105, 13] rfl ⟨rfl, Nat.le_of_ble_eq_true rfl, rfl, Nat.le_of_ble_eq_true rfl, rfl, Nat.le_of_ble_eq_true rfl, rfl⟩ (fun v h3 cv s3 => ?_)
  have s3' : HW.Sep h (Pc k kd P0 :: Dc kd (D0 plainT) :: Sl (encI .u8) 1 v [104, 105, 13] :: []) h3 := selF (L := [_, _, _]) s3 [1, 2, 0] rfl (by decide)
  refine mw_spec (l := [104, 105, 13]) (fun G h' s => (s.perm List.perm_middle).seq) (by decide) (by decide) (by decide) (by decide) s3' (fun v4 h4 s4 => ?_)
  have a1 : (mwL [104, 105, 13] (P0, D0 plainT, [])).2.2 = [] := by decide +kernel
  have a2 : ((mwL [104, 105, 13] (P0, D0 plainT, [])).1.read 99).2 = ([104, 105, 13, 10], 0) := by decide +kernel
  have a3 : ((mwL [104, 105, 13] (P0, D0 plainT, [])).2.1.read 99).2 = ([104, 105, 10], false) := by decide +kernel
  have a4 : (mwL [104, 105, 13] (P0, D0 plainT, [])).1.out.length ≤ 4096 := by decide +kernel
  have a5 : (mwL [104, 105, 13] (P0, D0 plainT, [])).2.1.wt ≤ 300000000 := by decide +kernel
  generalize mwL [104, 105, 13] (P0, D0 plainT, []) = x at s4 a1 a2 a3 a4 a5
  obtain ⟨p1, d1, sg⟩ := x
  simp only at s4 a1 a2 a3 a4 a5
  subst a1
  rw [tup3.1, tup3.2.1, tup3.2.2]
  refine mread_spec (n := 99) (by decide) a4 s4.b1 (fun v5 h5 s5 => ?_)
  rw [a2] at s5 ⊢
  rw [tup0, tup1]
  have s5' : HW.Sep h (Pc k kd (p1.read 99).1 :: Dc kd d1 :: Sl (encI .u8) 1 v5 [104, 105, 13, 10] :: Sl (encI .i64) 1 v4 [] :: [Sl (encI .u8) 1 v [104, 105, 13]]) h5 := selF (L := [_, _, _, _]) s5 [1, 3, 0, 2] rfl (by decide)
  refine sread_spec (n := 99) (by decide) a5 s5' (fun v6 h6 s6 => .inl ?_) (fun h' e _ _ => by rw [a3] at e; cases e)
  rw [a3] at s6
  rw [tup0, tup1]
  have l4 : ∀ {K : Value → Prop}, sLen v4 K = K (.int .i64 0) := fun {K} => s6.b4.seq.len
  simp only [l4, ev_eq, ev_and_p]
  have q5 : Ints .u8 h6 v5 [104, 105, 13, 10] := s6.b3.seq
  have q6 : Ints .u8 h6 v6 [104, 105, 10] := s6.seq
  refine and_ext (y := true) (fun _ K' HK => ?_) (fun h7 e7 => ?_)
  · refine (HW.Sep.start h6).slit (enc := encI .u8) (sz := 1) (encI_len .u8) [104, 105, 13, 10] rfl ⟨rfl, Nat.le_of_ble_eq_true rfl, rfl, Nat.le_of_ble_eq_true rfl, rfl, Nat.le_of_ble_eq_true rfl, rfl, Nat.le_of_ble_eq_true rfl, rfl⟩ (fun v8 h8 cv8 s8 => ?_)
    refine same_spec (k := .u8) (by decide) (q5.ext s8.ext) s8.seq ?_
    rw [decide_eq_true rfl]; exact HK _ s8.ext
  refine and_ext (y := true) (fun _ K' HK => ?_) (fun h9 e9 => ?_)
  · refine (HW.Sep.start h7).slit (enc := encI .u8) (sz := 1) (encI_len .u8) [104, 105, 10] rfl ⟨rfl, Nat.le_of_ble_eq_true rfl, rfl, Nat.le_of_ble_eq_true rfl, rfl, Nat.le_of_ble_eq_true rfl, rfl⟩ (fun v8 h8 cv8 s8 => ?_)
    refine same_spec (k := .u8) (by decide) ((q6.ext e7).ext s8.ext) s8.seq ?_
    rw [decide_eq_true rfl]; exact HK _ s8.ext
  exact H _ ((s6.ext.trans e7).trans e9)
end
end Go.Proofs.Ytlcklnbgknhhkaa

end

section
/- The line discipline, plain: what plain bytes do with the plain setting. -/
set_option linter.unusedSimpArgs false
set_option linter.unusedVariables false
namespace Go.Proofs.Ytlcklnbgknhhkaa
open Go Go.HW

/-- The plain setting, with other local flags. -/
def plT (l : Int) : Tm := ⟨84, 3, l, plainCc, 1, 0⟩
theorem plT_plain : plT 623 = plainT := rfl
def plB (c : Int) : Bool := (plT 0).map c == (c, true) && (List.range 12).all fun w => !(plT 0).is (w : Int) c
theorem plB_all : ∀ c : Fin 256, 32 ≤ c.val → c.val ≤ 126 → plB (c.val : Int) = true := by decide +kernel
theorem pl_map {l c : Int} (hc : 32 ≤ c ∧ c ≤ 126) : (plT l).map c = (c, true) := by
  have := plB_all ⟨c.toNat, by omega⟩ (by simp only; omega) (by simp only; omega)
  simp only at this
  rw [Int.toNat_of_nonneg (by omega)] at this
  unfold plB at this
  rw [Bool.and_eq_true] at this
  have h := beq_iff_eq.1 this.1
  exact h
theorem pl_is {l c w : Int} (hc : 32 ≤ c ∧ c ≤ 126) (hw : 0 ≤ w ∧ w < 12) : (plT l).is w c = false := by
  have := plB_all ⟨c.toNat, by omega⟩ (by simp only; omega) (by simp only; omega)
  simp only at this
  rw [Int.toNat_of_nonneg (by omega)] at this
  unfold plB at this
  rw [Bool.and_eq_true, List.all_eq_true] at this
  have h := this.2 w.toNat (List.mem_range.2 (by omega))
  rw [Int.toNat_of_nonneg hw.1] at h
  have h2 : (plT 0).is w c = false := by simpa using h
  exact h2
/-- Local flags of lines that are edited, and shown. -/
def okL (l : Int) : Prop := hasB l 1 = true ∧ hasB l 2 = true ∧ hasB l 4 = true ∧ hasB l 32 = true ∧ hasB l 64 = true ∧ hasB l 512 = true ∧ hasB l 16 = false
theorem ok623 : okL 623 := by unfold okL; decide +kernel
theorem ok751 : okL 751 := by unfold okL; decide +kernel
theorem in16 : hasB 84 16 = true := by decide +kernel
theorem in32 : hasB 84 32 = false := by decide +kernel
theorem in1 : hasB 84 1 = false := by decide +kernel
theorem in64 : hasB 84 64 = true := by decide +kernel
theorem flow_pl {d : D} {l c : Int} (ht : d.t = plT l) (h11 : (plT l).is 11 c = false) (h10 : (plT l).is 10 c = false) : d.flow c = (d, false) := by
  unfold D.flow D.inn
  rw [ht, h11, h10]
  have e : (plT l).i = 84 := rfl
  rw [e, in16, in32]; rfl
theorem signal_pl {d : D} {l c : Int} (ht : d.t = plT l) (h : ∀ w : Int, 0 ≤ w ∧ w < 3 → (plT l).is w c = false) : d.signal c = 0 := by
  unfold D.signal
  rw [ht, h 0 (by omega), h 1 (by omega), h 2 (by omega)]
  split <;> rfl
theorem ext_pl {d : D} {l c : Int} (ht : d.t = plT l) (h9 : (plT l).is 9 c = false) (h7 : (plT l).is 7 c = false) (h8 : (plT l).is 8 c = false) : d.extended c = (d, false) := by
  unfold D.extended
  rw [ht, h9, h7, h8]
  split <;> rfl
theorem pict_pl {d : D} {c : Int} (hc : 32 ≤ c ∧ c ≤ 126) : d.pict c = [c] := by
  unfold D.pict
  rw [if_neg]
  simp only [Bool.and_eq_true, Bool.or_eq_true, decide_eq_true_eq, bne_iff_ne, beq_iff_eq]
  omega
theorem put_pl {d : D} {l c : Int} (ht : d.t = plT l) (hl : okL l) (hc : 32 ≤ c ∧ c ≤ 126) (hn : d.ln.length < 254) : d.put c = ({ d with ln := d.ln ++ [c], ec := d.ec ++ [c] }, true) := by
  obtain ⟨l1, l2, l4, l32, l64, l512, l16⟩ := hl
  have e1 : d.loc 1 = true := by unfold D.loc; rw [ht]; exact l1
  have e2 : ({ d with ln := d.ln ++ [c] } : D).loc 2 = true := by unfold D.loc; simp only; rw [ht]; exact l2
  have ec : (c == 10) = false := by simp; omega
  unfold D.put
  rw [e1, if_neg (by simp), if_pos (by simp [hn])]
  unfold D.put1 D.show
  rw [ec]
  simp only [Bool.false_and, Bool.false_eq_true, if_false]
  rw [e2, if_pos rfl, pict_pl hc]; rfl
theorem edit_put {d : D} {l c : Int} (ht : d.t = plT l) (ee : d.extended c = (d, false)) (h5 : (plT l).is 5 c = false) (h6 : (plT l).is 6 c = false) (h3 : (plT l).is 3 c = false) (he : d.ends c = false) : d.edit c = (d.put c).1 := by
  unfold D.edit
  rw [ee, ht, h5, h6, h3, he]
  simp
theorem edit_back {d : D} {l c : Int} (ht : d.t = plT l) (ee : d.extended c = (d, false)) (h5 : (plT l).is 5 c = true) (hp : 0 < d.ln.length) (h4 : d.loc 4 = true) : d.edit c = d.back := by
  unfold D.edit
  rw [ee, ht, h5, h4]
  simp [hp]
theorem in_pl {d : D} {l c : Int} (ht : d.t = plT l) (hl : okL l) (hx : d.nx = false) (hc : 32 ≤ c ∧ c ≤ 126) (hn : d.ln.length < 254) : d.input c = ({ d with ln := d.ln ++ [c], ec := [c] }, 0) := by
  obtain ⟨t, ln, ls, ra, st, nx, ec⟩ := d
  simp only at ht hx hn ⊢
  subst ht
  subst hx
  have hI := fun w hw => pl_is (l := l) (c := c) (w := w) hc hw
  have hp : (⟨plT l, ln, ls, ra, st, false, []⟩ : D).put c = (⟨plT l, ln ++ [c], ls, ra, st, false, [c]⟩, true) := put_pl (d := ⟨plT l, ln, ls, ra, st, false, []⟩) rfl hl hc hn
  show D.byte ⟨plT l, ln, ls, ra, st, false, []⟩ c = (⟨plT l, ln ++ [c], ls, ra, st, false, [c]⟩, 0)
  unfold D.byte
  have em : (⟨plT l, ln, ls, ra, st, false, []⟩ : D).t.map c = (c, true) := by exact pl_map hc
  have ef : (⟨plT l, ln, ls, ra, st, false, []⟩ : D).flow c = (⟨plT l, ln, ls, ra, st, false, []⟩, false) := flow_pl (d := ⟨plT l, ln, ls, ra, st, false, []⟩) rfl (hI 11 (by omega)) (hI 10 (by omega))
  have es : (⟨plT l, ln, ls, ra, st, false, []⟩ : D).signal c = 0 := signal_pl (d := ⟨plT l, ln, ls, ra, st, false, []⟩) rfl (fun w hw => hI w (by omega))
  have e1 : (⟨plT l, ln, ls, ra, st, false, []⟩ : D).loc 1 = true := by exact hl.1
  have ee := ext_pl (d := ⟨plT l, ln, ls, ra, st, false, []⟩) (c := c) rfl (hI 9 (by omega)) (hI 7 (by omega)) (hI 8 (by omega))
  rw [if_neg (show ¬ (⟨plT l, ln, ls, ra, st, false, []⟩ : D).nx = true from Bool.false_ne_true), em]
  simp only
  rw [if_neg (by decide), ef]
  simp only
  rw [if_neg (by decide), es, if_neg (by simp), e1, if_pos rfl]
  have een : (⟨plT l, ln, ls, ra, st, false, []⟩ : D).ends c = false := by
    unfold D.ends
    have e4 : (⟨plT l, ln, ls, ra, st, false, []⟩ : D).t.is 4 c = false := hI 4 (by omega)
    have ec : (c == 10) = false := by simp; omega
    rw [ec, e4]; rfl
  rw [edit_put rfl ee (hI 5 (by omega)) (hI 6 (by omega)) (hI 3 (by omega)) een, hp]
/-- The last byte, a plain one, is taken back. -/
theorem in_erase {d : D} {l : Int} (ht : d.t = plT l) (hl : okL l) (hx : d.nx = false) (hne : d.ln ≠ []) (hp : 32 ≤ d.ln.getLastD 0 ∧ d.ln.getLastD 0 ≤ 126) : d.input 127 = ({ d with ln := d.ln.dropLast, ec := [8, 32, 8] }, 0) := by
  obtain ⟨t, ln, ls, ra, st, nx, ec⟩ := d
  simp only at ht hx hne hp ⊢
  subst ht
  subst hx
  have hm : (plT l).map 127 = (127, true) := by show (plT 0).map 127 = _; decide +kernel
  have hI : ∀ w : Int, 0 ≤ w ∧ w < 12 → w ≠ 5 → (plT l).is w 127 = false := by
    intro w hw h5
    have key : ∀ w : Fin 12, w.val ≠ 5 → (plT 0).is (w.val : Int) 127 = false := by decide +kernel
    have := key ⟨w.toNat, by omega⟩ (by simp only; omega)
    simp only at this
    rw [Int.toNat_of_nonneg hw.1] at this
    exact this
  have h5 : (plT l).is 5 127 = true := by show (plT 0).is 5 127 = _; decide +kernel
  show D.byte ⟨plT l, ln, ls, ra, st, false, []⟩ 127 = (⟨plT l, ln.dropLast, ls, ra, st, false, [8, 32, 8]⟩, 0)
  unfold D.byte
  have em : (⟨plT l, ln, ls, ra, st, false, []⟩ : D).t.map 127 = (127, true) := by exact hm
  have ef : (⟨plT l, ln, ls, ra, st, false, []⟩ : D).flow 127 = (⟨plT l, ln, ls, ra, st, false, []⟩, false) := flow_pl (d := ⟨plT l, ln, ls, ra, st, false, []⟩) rfl (hI 11 (by omega) (by omega)) (hI 10 (by omega) (by omega))
  have es : (⟨plT l, ln, ls, ra, st, false, []⟩ : D).signal 127 = 0 := signal_pl (d := ⟨plT l, ln, ls, ra, st, false, []⟩) rfl (fun w hw => hI w (by omega) (by omega))
  have e1 : (⟨plT l, ln, ls, ra, st, false, []⟩ : D).loc 1 = true := by exact hl.1
  have ee := ext_pl (d := ⟨plT l, ln, ls, ra, st, false, []⟩) (c := 127) rfl (hI 9 (by omega) (by omega)) (hI 7 (by omega) (by omega)) (hI 8 (by omega) (by omega))
  rw [if_neg (show ¬ (⟨plT l, ln, ls, ra, st, false, []⟩ : D).nx = true from Bool.false_ne_true), em]
  simp only
  rw [if_neg (by decide), ef]
  simp only
  rw [if_neg (by decide), es, if_neg (by simp), e1, if_pos rfl]
  have e4 : (⟨plT l, ln, ls, ra, st, false, []⟩ : D).loc 4 = true := hl.2.2.1
  have e2 : (⟨plT l, ln, ls, ra, st, false, []⟩ : D).loc 2 = true := hl.2.1
  have hpos : 0 < ln.length := by
    cases ln with
    | nil => exact (hne rfl).elim
    | cons a b => simp
  rw [edit_back rfl ee h5 hpos e4]
  unfold D.back
  rw [e2, e4, if_neg (by decide)]
  have hq : (⟨plT l, ln, ls, ra, st, false, []⟩ : D).pict (ln.getLastD 0) = [ln.getLastD 0] := pict_pl hp
  show (((⟨plT l, ln, ls, ra, st, false, []⟩ : D).cutLast.emit (backs ((⟨plT l, ln, ls, ra, st, false, []⟩ : D).pict (ln.getLastD 0)).length)), (0 : Int)) = _
  rw [hq]; rfl
def lett (x : Int) : Int := 97 + x % 26
theorem lett_rng {x : Int} : 97 ≤ lett x ∧ lett x ≤ 122 := by unfold lett; omega
theorem ev_lett {x : Int} {K : Value → Prop} (hx : 0 ≤ x ∧ x < 256) : (sRem .u8 (.int .u8 x) (.int .u8 26) fun x57 => sAdd .u8 (.int .u8 97) x57 K) = K (.int .u8 (lett x)) := by
  rw [ev_rem (by decide), Int.tmod_eq_emod_of_nonneg hx.1, ev_add]
  have e : IntKind.u8.wrap (97 + x % 26) = lett x := by unfold IntKind.wrap lett; simp [IntKind.signed, IntKind.bits]; omega
  rw [e]
theorem last_mem {l : List Int} (hne : l ≠ []) : l.getLastD 0 ∈ l := by
  have hp : 0 < l.length := by cases hd : l with
    | nil => exact (hne hd).elim
    | cons a b => simp
  have hg : l[l.length - 1]? = some (l.getLastD 0) := by
    rw [List.getLastD_eq_getLast?, List.getLast?_eq_getElem?, List.getElem?_eq_getElem (by omega)]; rfl
  exact List.mem_of_getElem? hg
end Go.Proofs.Ytlcklnbgknhhkaa

end
