/- The shallow reading of one function, and that the function does it. Written by a program. -/
import Derived.Test.YtpgpbhbpamgboaaDoorFnC
set_option linter.unusedVariables false
namespace Go.Proofs.YtpgpbhbpamgboaaDoor
open Go Go.HW

def betonylaw25_CharsetHolds_S (x0 x1 x2 x3 : Value) (h : Heap) (R : Value → Heap → Prop) : Prop :=
  sNew h #[.int .u8 0, .int .u8 0, .int .i64 0] 24 fun x9 h => 
  sNew h #[.int .u8 0, .int .u8 0, .int .i64 0] 24 fun x10 h_1 => 
  charset_Sets_Hold_c x9 x3 h_1 fun x12 h_2 => 
  sNot x12 fun x13 =>
  sIf x13 (sLt x3 (.int .i64 0) fun x15 =>
  sOr x15 (fun k_1 =>
  sGt x3 (.int .i64 1) fun x18 =>
  k_1 x18) fun x19 =>
  sAndH x19 h_2 (fun k =>
  betonylaw25_awake_c  h_2 fun x21 h_4 => 
  k x21 h_4) fun x22 h_3 =>
  R x22 h_3) (charset_Sets_Hold_c x10 x3 h_2 fun x24 h_5 => 
  charset_Sets_Put_c x9 x3 x1 h_5 fun x27 h_6 => 
  charset_Sets_Put_c x10 x3 x1 h_6 fun x30 h_7 => 
  sSub .i64 (.int .i64 1) x3 fun x32 =>
  charset_Sets_Put_c x9 x32 x2 h_7 fun x34 h_8 => 
  charset_Sets_Map_c x9 x0 h_8 fun x36 h_9 => 
  charset_Sets_Map_c x10 x0 h_9 fun x38 h_10 => 
  sNe x36 x38 fun x39 =>
  sIf x39 (R (.bool false) h_10) (sSub .i64 (.int .i64 1) x3 fun x41 =>
  charset_Sets_Hold_c x9 x41 h_10 fun x42 h_11 => 
  charset_Sets_Put_c x10 x3 (.int .u8 66) h_11 fun x44 h_12 => 
  charset_Sets_Put_c x10 x3 x2 h_12 fun x47 h_13 => 
  charset_Sets_Map_c x9 x0 h_13 fun x49 h_14 => 
  charset_Sets_Map_c x10 x0 h_14 fun x51 h_15 => 
  sEq x49 x51 fun x52 =>
  sAndH x52 h_15 (fun k_2 =>
  betonylaw25_awake_c  h_15 fun x54 h_17 => 
  k_2 x54 h_17) fun x55 h_16 =>
  R x55 h_16))
set_option maxRecDepth 100000 in
theorem betonylaw25_CharsetHolds_runs {x0 x1 x2 x3 : Value} {h : Heap} {R : Value → Heap → Prop} (H : betonylaw25_CharsetHolds_S x0 x1 x2 x3 h R) : betonylaw25_CharsetHolds_c x0 x1 x2 x3 h R := by
  unfold betonylaw25_CharsetHolds_S at H
  refine runs_of (b := ⟨#[x0, x1, x2, x3, undef, undef, undef, undef, undef, undef, undef, undef, undef, undef, undef, undef, undef, undef, undef, undef, undef, undef, undef, undef, undef, undef, undef, undef, undef, undef, undef, undef, undef, undef, undef, undef, undef, undef, undef, undef, undef, undef, undef, undef, undef, undef, undef, undef, undef, undef, undef, undef, undef, undef, undef, undef], []⟩) Tryd.call4 Tryd.func4 rfl (by kernel_rfl) (fun w0 HA => ?_)
  refine wp_seq ?_
  refine lwp_list ?_
  refine ls_assign (x := (.bool false)) (by kernel_rfl) (by kernel_rfl) ?_
  refine ls_nil ?_
  refine then_normal ?_
  refine fr_eq (b := ⟨#[x0, x1, x2, x3, undef, undef, undef, undef, (.bool false), undef, undef, undef, undef, undef, undef, undef, undef, undef, undef, undef, undef, undef, undef, undef, undef, undef, undef, undef, undef, undef, undef, undef, undef, undef, undef, undef, undef, undef, undef, undef, undef, undef, undef, undef, undef, undef, undef, undef, undef, undef, undef, undef, undef, undef, undef, undef], []⟩) (by kernel_rfl) ?_
  refine wp_seq ?_
  refine lwp_list ?_
  refine ls_d (d := some 9) (by kernel_rfl) (by kernel_rfl) HA (d_alloc Tryd.zeroValue24 H) (fun x9 h w H HA => ?_)
  refine ls_d (d := some 10) (by kernel_rfl) (by kernel_rfl) HA (d_alloc Tryd.zeroValue24 H) (fun x10 h_1 w_1 H HA_1 => ?_)
  refine ls_nil ?_
  refine then_normal ?_
  refine fr_eq (b := ⟨#[x0, x1, x2, x3, undef, undef, undef, undef, (.bool false), x9, x10, undef, undef, undef, undef, undef, undef, undef, undef, undef, undef, undef, undef, undef, undef, undef, undef, undef, undef, undef, undef, undef, undef, undef, undef, undef, undef, undef, undef, undef, undef, undef, undef, undef, undef, undef, undef, undef, undef, undef, undef, undef, undef, undef, undef, undef], []⟩) (by kernel_rfl) ?_
  refine wp_seq ?_
  refine wp_seq ?_
  refine lwp_list ?_
  refine ls_move (x := x3) (by kernel_rfl) (by kernel_rfl) ?_
  refine ls_d (d := some 12) (by kernel_rfl) (by kernel_rfl) HA_1 (d_call (by kernel_rfl) (by kernel_rfl) H) (fun x12 h_2 w_2 H HA_2 => ?_)
  refine ls_p (d := some 13) (by kernel_rfl) (by kernel_rfl) (p_not (by kernel_rfl) H) (fun x13 H => ?_)
  refine ls_nil ?_
  refine then_normal ?_
  refine fr_eq (b := ⟨#[x0, x1, x2, x3, undef, undef, undef, undef, (.bool false), x9, x10, x3, x12, x13, undef, undef, undef, undef, undef, undef, undef, undef, undef, undef, undef, undef, undef, undef, undef, undef, undef, undef, undef, undef, undef, undef, undef, undef, undef, undef, undef, undef, undef, undef, undef, undef, undef, undef, undef, undef, undef, undef, undef, undef, undef, undef], []⟩) (by kernel_rfl) ?_
  refine wp_if rfl H (fun H => ?_) (fun H => ?_)
  · refine wp_seq ?_
    refine lwp_list ?_
    refine ls_move (x := x3) (by kernel_rfl) (by kernel_rfl) ?_
    refine ls_p (d := some 15) (by kernel_rfl) (by kernel_rfl) (p_sLt (by kernel_rfl) (by kernel_rfl) H) (fun x15 H => ?_)
    refine ls_move (x := x15) (by kernel_rfl) (by kernel_rfl) ?_
    refine ls_or [(), (), ()] (fun K a w => ∃ (D : Nat → Value) (x19 : Value), a = ⟨#[x0, x1, x2, x3, undef, undef, undef, undef, (.bool false), x9, x10, x3, x12, x13, x3, x15, x15, (D 0), (D 1), x19, undef, undef, undef, undef, undef, undef, undef, undef, undef, undef, undef, undef, undef, undef, undef, undef, undef, undef, undef, undef, undef, undef, undef, undef, undef, undef, undef, undef, undef, undef, undef, undef, undef, undef, undef, undef], []⟩ ∧ At w0 w h_2 ∧ K x19) H (fun hb_1 H => ?_) (fun hb_1 H => ?_) ?_
    · refine ls_move (x := x3) (by rw [hb_1]; kernel_rfl) (by kernel_rfl) ?_
      refine ls_p (d := some 18) (by kernel_rfl) (by rw [hb_1]; kernel_rfl) (p_sGt (by kernel_rfl) (by kernel_rfl) H) (fun x18 H => ?_)
      refine ls_pick_f (y := x18) (by kernel_rfl) (by rw [hb_1]; kernel_rfl) (by kernel_rfl) ?_
      refine ls_nil ?_
      refine then_normal ?_
      exact ⟨(fun i => ([x3, x18]).getD i undef), x18, by kernel_rfl, HA_2, H⟩
    · refine ls_skip (d := some 17) (by kernel_rfl) (by rw [hb_1]; kernel_rfl) ?_
      refine ls_skip (d := some 18) (by kernel_rfl) (by rw [hb_1]; kernel_rfl) ?_
      refine ls_pick_t (x := (.bool true)) (by kernel_rfl) (by rw [hb_1]; kernel_rfl) (by kernel_rfl) ?_
      refine ls_nil ?_
      refine then_normal ?_
      exact ⟨(fun i => ([undef, undef]).getD i undef), (.bool true), by kernel_rfl, HA_2, H⟩
    · rintro _ w_3 ⟨D, x19, rfl, HA_3, H⟩
      refine ls_move (x := x19) (by kernel_rfl) (by kernel_rfl) ?_
      refine ls_andh [(), ()] (fun K a w => ∃ (D_1 : Nat → Value) (x22 : Value) (h_3 : Heap), a = ⟨#[x0, x1, x2, x3, undef, undef, undef, undef, (.bool false), x9, x10, x3, x12, x13, x3, x15, x15, (D 0), (D 1), x19, x19, (D_1 0), x22, undef, undef, undef, undef, undef, undef, undef, undef, undef, undef, undef, undef, undef, undef, undef, undef, undef, undef, undef, undef, undef, undef, undef, undef, undef, undef, undef, undef, undef, undef, undef, undef, undef], []⟩ ∧ At w0 w h_3 ∧ K x22 h_3) H (fun hb H => ?_) (fun hb H => ?_) ?_
      · refine ls_d (d := some 21) (by kernel_rfl) (by rw [hb]; kernel_rfl) HA_3 (d_call (by kernel_rfl) (by kernel_rfl) H) (fun x21 h_4 w_5 H HA_5 => ?_)
        refine ls_pick_t (x := x21) (by kernel_rfl) (by rw [hb]; kernel_rfl) (by kernel_rfl) ?_
        refine ls_nil ?_
        refine then_normal ?_
        exact ⟨(fun i => ([x21]).getD i undef), x21, h_4, by kernel_rfl, HA_5, H⟩
      · refine ls_skip (d := some 21) (by kernel_rfl) (by rw [hb]; kernel_rfl) ?_
        refine ls_pick_f (y := (.bool false)) (by kernel_rfl) (by rw [hb]; kernel_rfl) (by kernel_rfl) ?_
        refine ls_nil ?_
        refine then_normal ?_
        exact ⟨(fun i => ([undef]).getD i undef), (.bool false), h_2, by kernel_rfl, HA_3, H⟩
      · rintro _ w_4 ⟨D_1, x22, h_3, rfl, HA_4, H⟩
        refine ls_assign (x := x22) (by kernel_rfl) (by kernel_rfl) ?_
        refine ls_nil ?_
        refine then_normal ?_
        refine fr_eq (b := ⟨#[x0, x1, x2, x3, undef, undef, undef, undef, x22, x9, x10, x3, x12, x13, x3, x15, x15, (D 0), (D 1), x19, x19, (D_1 0), x22, undef, undef, undef, undef, undef, undef, undef, undef, undef, undef, undef, undef, undef, undef, undef, undef, undef, undef, undef, undef, undef, undef, undef, undef, undef, undef, undef, undef, undef, undef, undef, undef, undef], []⟩) (by kernel_rfl) ?_
        refine wp_ret ?_
        refine then_ret ?_
        exact end1 (Tryd.results4) (by kernel_rfl) (by kernel_rfl) HA_4 H _ (.inr rfl)
  · refine wp_skip ?_
    refine then_normal ?_
    refine fr_eq (b := ⟨#[x0, x1, x2, x3, undef, undef, undef, undef, (.bool false), x9, x10, x3, x12, x13, undef, undef, undef, undef, undef, undef, undef, undef, undef, undef, undef, undef, undef, undef, undef, undef, undef, undef, undef, undef, undef, undef, undef, undef, undef, undef, undef, undef, undef, undef, undef, undef, undef, undef, undef, undef, undef, undef, undef, undef, undef, undef], []⟩) (by kernel_rfl) ?_
    refine wp_seq ?_
    refine lwp_list ?_
    refine ls_move (x := x3) (by kernel_rfl) (by kernel_rfl) ?_
    refine ls_d (d := some 24) (by kernel_rfl) (by kernel_rfl) HA_2 (d_call (by kernel_rfl) (by kernel_rfl) H) (fun x24 h_5 w_6 H HA_6 => ?_)
    refine ls_nil ?_
    refine then_normal ?_
    refine fr_eq (b := ⟨#[x0, x1, x2, x3, undef, undef, undef, undef, (.bool false), x9, x10, x3, x12, x13, undef, undef, undef, undef, undef, undef, undef, undef, undef, x3, x24, undef, undef, undef, undef, undef, undef, undef, undef, undef, undef, undef, undef, undef, undef, undef, undef, undef, undef, undef, undef, undef, undef, undef, undef, undef, undef, undef, undef, undef, undef, undef], []⟩) (by kernel_rfl) ?_
    refine wp_seq ?_
    refine lwp_list ?_
    refine ls_move (x := x3) (by kernel_rfl) (by kernel_rfl) ?_
    refine ls_move (x := x1) (by kernel_rfl) (by kernel_rfl) ?_
    refine ls_d (d := some 27) (by kernel_rfl) (by kernel_rfl) HA_6 (d_call (by kernel_rfl) (by kernel_rfl) H) (fun x27 h_6 w_7 H HA_7 => ?_)
    refine ls_nil ?_
    refine then_normal ?_
    refine fr_eq (b := ⟨#[x0, x1, x2, x3, undef, undef, undef, undef, (.bool false), x9, x10, x3, x12, x13, undef, undef, undef, undef, undef, undef, undef, undef, undef, x3, x24, x3, x1, x27, undef, undef, undef, undef, undef, undef, undef, undef, undef, undef, undef, undef, undef, undef, undef, undef, undef, undef, undef, undef, undef, undef, undef, undef, undef, undef, undef, undef], []⟩) (by kernel_rfl) ?_
    refine wp_seq ?_
    refine lwp_list ?_
    refine ls_move (x := x3) (by kernel_rfl) (by kernel_rfl) ?_
    refine ls_move (x := x1) (by kernel_rfl) (by kernel_rfl) ?_
    refine ls_d (d := some 30) (by kernel_rfl) (by kernel_rfl) HA_7 (d_call (by kernel_rfl) (by kernel_rfl) H) (fun x30 h_7 w_8 H HA_8 => ?_)
    refine ls_nil ?_
    refine then_normal ?_
    refine fr_eq (b := ⟨#[x0, x1, x2, x3, undef, undef, undef, undef, (.bool false), x9, x10, x3, x12, x13, undef, undef, undef, undef, undef, undef, undef, undef, undef, x3, x24, x3, x1, x27, x3, x1, x30, undef, undef, undef, undef, undef, undef, undef, undef, undef, undef, undef, undef, undef, undef, undef, undef, undef, undef, undef, undef, undef, undef, undef, undef, undef], []⟩) (by kernel_rfl) ?_
    refine wp_seq ?_
    refine lwp_list ?_
    refine ls_move (x := x3) (by kernel_rfl) (by kernel_rfl) ?_
    refine ls_p (d := some 32) (by kernel_rfl) (by kernel_rfl) (p_sub (by kernel_rfl) (by kernel_rfl) H) (fun x32 H => ?_)
    refine ls_move (x := x2) (by kernel_rfl) (by kernel_rfl) ?_
    refine ls_d (d := some 34) (by kernel_rfl) (by kernel_rfl) HA_8 (d_call (by kernel_rfl) (by kernel_rfl) H) (fun x34 h_8 w_9 H HA_9 => ?_)
    refine ls_nil ?_
    refine then_normal ?_
    refine fr_eq (b := ⟨#[x0, x1, x2, x3, undef, undef, undef, undef, (.bool false), x9, x10, x3, x12, x13, undef, undef, undef, undef, undef, undef, undef, undef, undef, x3, x24, x3, x1, x27, x3, x1, x30, x3, x32, x2, x34, undef, undef, undef, undef, undef, undef, undef, undef, undef, undef, undef, undef, undef, undef, undef, undef, undef, undef, undef, undef, undef], []⟩) (by kernel_rfl) ?_
    refine wp_seq ?_
    refine wp_seq ?_
    refine lwp_list ?_
    refine ls_move (x := x0) (by kernel_rfl) (by kernel_rfl) ?_
    refine ls_d (d := some 36) (by kernel_rfl) (by kernel_rfl) HA_9 (d_call (by kernel_rfl) (by kernel_rfl) H) (fun x36 h_9 w_10 H HA_10 => ?_)
    refine ls_move (x := x0) (by kernel_rfl) (by kernel_rfl) ?_
    refine ls_d (d := some 38) (by kernel_rfl) (by kernel_rfl) HA_10 (d_call (by kernel_rfl) (by kernel_rfl) H) (fun x38 h_10 w_11 H HA_11 => ?_)
    refine ls_p (d := some 39) (by kernel_rfl) (by kernel_rfl) (p_sNe (by kernel_rfl) (by kernel_rfl) H) (fun x39 H => ?_)
    refine ls_nil ?_
    refine then_normal ?_
    refine fr_eq (b := ⟨#[x0, x1, x2, x3, undef, undef, undef, undef, (.bool false), x9, x10, x3, x12, x13, undef, undef, undef, undef, undef, undef, undef, undef, undef, x3, x24, x3, x1, x27, x3, x1, x30, x3, x32, x2, x34, x0, x36, x0, x38, x39, undef, undef, undef, undef, undef, undef, undef, undef, undef, undef, undef, undef, undef, undef, undef, undef], []⟩) (by kernel_rfl) ?_
    refine wp_if rfl H (fun H => ?_) (fun H => ?_)
    · refine wp_seq ?_
      refine lwp_list ?_
      refine ls_assign (x := (.bool false)) (by kernel_rfl) (by kernel_rfl) ?_
      refine ls_nil ?_
      refine then_normal ?_
      refine fr_eq (b := ⟨#[x0, x1, x2, x3, undef, undef, undef, undef, (.bool false), x9, x10, x3, x12, x13, undef, undef, undef, undef, undef, undef, undef, undef, undef, x3, x24, x3, x1, x27, x3, x1, x30, x3, x32, x2, x34, x0, x36, x0, x38, x39, undef, undef, undef, undef, undef, undef, undef, undef, undef, undef, undef, undef, undef, undef, undef, undef], []⟩) (by kernel_rfl) ?_
      refine wp_ret ?_
      refine then_ret ?_
      exact end1 (Tryd.results4) (by kernel_rfl) (by kernel_rfl) HA_11 H _ (.inr rfl)
    · refine wp_skip ?_
      refine then_normal ?_
      refine fr_eq (b := ⟨#[x0, x1, x2, x3, undef, undef, undef, undef, (.bool false), x9, x10, x3, x12, x13, undef, undef, undef, undef, undef, undef, undef, undef, undef, x3, x24, x3, x1, x27, x3, x1, x30, x3, x32, x2, x34, x0, x36, x0, x38, x39, undef, undef, undef, undef, undef, undef, undef, undef, undef, undef, undef, undef, undef, undef, undef, undef], []⟩) (by kernel_rfl) ?_
      refine wp_seq ?_
      refine lwp_list ?_
      refine ls_move (x := x3) (by kernel_rfl) (by kernel_rfl) ?_
      refine ls_p (d := some 41) (by kernel_rfl) (by kernel_rfl) (p_sub (by kernel_rfl) (by kernel_rfl) H) (fun x41 H => ?_)
      refine ls_d (d := some 42) (by kernel_rfl) (by kernel_rfl) HA_11 (d_call (by kernel_rfl) (by kernel_rfl) H) (fun x42 h_11 w_12 H HA_12 => ?_)
      refine ls_nil ?_
      refine then_normal ?_
      refine fr_eq (b := ⟨#[x0, x1, x2, x3, undef, undef, undef, undef, (.bool false), x9, x10, x3, x12, x13, undef, undef, undef, undef, undef, undef, undef, undef, undef, x3, x24, x3, x1, x27, x3, x1, x30, x3, x32, x2, x34, x0, x36, x0, x38, x39, x3, x41, x42, undef, undef, undef, undef, undef, undef, undef, undef, undef, undef, undef, undef, undef], []⟩) (by kernel_rfl) ?_
      refine wp_seq ?_
      refine lwp_list ?_
      refine ls_move (x := x3) (by kernel_rfl) (by kernel_rfl) ?_
      refine ls_d (d := some 44) (by kernel_rfl) (by kernel_rfl) HA_12 (d_call (by kernel_rfl) (by kernel_rfl) H) (fun x44 h_12 w_13 H HA_13 => ?_)
      refine ls_nil ?_
      refine then_normal ?_
      refine fr_eq (b := ⟨#[x0, x1, x2, x3, undef, undef, undef, undef, (.bool false), x9, x10, x3, x12, x13, undef, undef, undef, undef, undef, undef, undef, undef, undef, x3, x24, x3, x1, x27, x3, x1, x30, x3, x32, x2, x34, x0, x36, x0, x38, x39, x3, x41, x42, x3, x44, undef, undef, undef, undef, undef, undef, undef, undef, undef, undef, undef], []⟩) (by kernel_rfl) ?_
      refine wp_seq ?_
      refine lwp_list ?_
      refine ls_move (x := x3) (by kernel_rfl) (by kernel_rfl) ?_
      refine ls_move (x := x2) (by kernel_rfl) (by kernel_rfl) ?_
      refine ls_d (d := some 47) (by kernel_rfl) (by kernel_rfl) HA_13 (d_call (by kernel_rfl) (by kernel_rfl) H) (fun x47 h_13 w_14 H HA_14 => ?_)
      refine ls_nil ?_
      refine then_normal ?_
      refine fr_eq (b := ⟨#[x0, x1, x2, x3, undef, undef, undef, undef, (.bool false), x9, x10, x3, x12, x13, undef, undef, undef, undef, undef, undef, undef, undef, undef, x3, x24, x3, x1, x27, x3, x1, x30, x3, x32, x2, x34, x0, x36, x0, x38, x39, x3, x41, x42, x3, x44, x3, x2, x47, undef, undef, undef, undef, undef, undef, undef, undef], []⟩) (by kernel_rfl) ?_
      refine wp_seq ?_
      refine lwp_list ?_
      refine ls_move (x := x0) (by kernel_rfl) (by kernel_rfl) ?_
      refine ls_d (d := some 49) (by kernel_rfl) (by kernel_rfl) HA_14 (d_call (by kernel_rfl) (by kernel_rfl) H) (fun x49 h_14 w_15 H HA_15 => ?_)
      refine ls_move (x := x0) (by kernel_rfl) (by kernel_rfl) ?_
      refine ls_d (d := some 51) (by kernel_rfl) (by kernel_rfl) HA_15 (d_call (by kernel_rfl) (by kernel_rfl) H) (fun x51 h_15 w_16 H HA_16 => ?_)
      refine ls_p (d := some 52) (by kernel_rfl) (by kernel_rfl) (p_sEq (by kernel_rfl) (by kernel_rfl) H) (fun x52 H => ?_)
      refine ls_move (x := x52) (by kernel_rfl) (by kernel_rfl) ?_
      refine ls_fr (b := ⟨#[x0, x1, x2, x3, undef, undef, undef, undef, (.bool false), x9, x10, x3, x12, x13, undef, undef, undef, undef, undef, undef, undef, undef, undef, x3, x24, x3, x1, x27, x3, x1, x30, x3, x32, x2, x34, x0, x36, x0, x38, x39, x3, x41, x42, x3, x44, x3, x2, x47, x0, x49, x0, x51, x52, x52, undef, undef], []⟩) (by kernel_rfl) ?_
      refine ls_andh [(), ()] (fun K a w => ∃ (D_2 : Nat → Value) (x55 : Value) (h_16 : Heap), a = ⟨#[x0, x1, x2, x3, undef, undef, undef, undef, (.bool false), x9, x10, x3, x12, x13, undef, undef, undef, undef, undef, undef, undef, undef, undef, x3, x24, x3, x1, x27, x3, x1, x30, x3, x32, x2, x34, x0, x36, x0, x38, x39, x3, x41, x42, x3, x44, x3, x2, x47, x0, x49, x0, x51, x52, x52, (D_2 0), x55], []⟩ ∧ At w0 w h_16 ∧ K x55 h_16) H (fun hb_2 H => ?_) (fun hb_2 H => ?_) ?_
      · refine ls_d (d := some 54) (by kernel_rfl) (by rw [hb_2]; kernel_rfl) HA_16 (d_call (by kernel_rfl) (by kernel_rfl) H) (fun x54 h_17 w_18 H HA_18 => ?_)
        refine ls_pick_t (x := x54) (by kernel_rfl) (by rw [hb_2]; kernel_rfl) (by kernel_rfl) ?_
        refine ls_nil ?_
        refine then_normal ?_
        exact ⟨(fun i => ([x54]).getD i undef), x54, h_17, by kernel_rfl, HA_18, H⟩
      · refine ls_skip (d := some 54) (by kernel_rfl) (by rw [hb_2]; kernel_rfl) ?_
        refine ls_pick_f (y := (.bool false)) (by kernel_rfl) (by rw [hb_2]; kernel_rfl) (by kernel_rfl) ?_
        refine ls_nil ?_
        refine then_normal ?_
        exact ⟨(fun i => ([undef]).getD i undef), (.bool false), h_15, by kernel_rfl, HA_16, H⟩
      · rintro _ w_17 ⟨D_2, x55, h_16, rfl, HA_17, H⟩
        refine ls_assign (x := x55) (by kernel_rfl) (by kernel_rfl) ?_
        refine ls_nil ?_
        refine then_normal ?_
        refine fr_eq (b := ⟨#[x0, x1, x2, x3, undef, undef, undef, undef, x55, x9, x10, x3, x12, x13, undef, undef, undef, undef, undef, undef, undef, undef, undef, x3, x24, x3, x1, x27, x3, x1, x30, x3, x32, x2, x34, x0, x36, x0, x38, x39, x3, x41, x42, x3, x44, x3, x2, x47, x0, x49, x0, x51, x52, x52, (D_2 0), x55], []⟩) (by kernel_rfl) ?_
        refine wp_ret ?_
        exact end1 (Tryd.results4) (by kernel_rfl) (by kernel_rfl) HA_17 H _ (.inr rfl)

end Go.Proofs.YtpgpbhbpamgboaaDoor
