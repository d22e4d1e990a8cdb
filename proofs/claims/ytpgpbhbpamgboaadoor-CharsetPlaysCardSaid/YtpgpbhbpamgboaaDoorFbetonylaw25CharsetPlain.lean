/- The shallow reading of one function, and that the function does it. Written by a program. -/
import Derived.Test.YtpgpbhbpamgboaaDoorFnC
set_option linter.unusedVariables false
namespace Go.Proofs.YtpgpbhbpamgboaaDoor
open Go Go.HW

def betonylaw25_CharsetPlain_S (x0 x1 : Value) (h : Heap) (R : Value → Heap → Prop) : Prop :=
  sNew h #[.int .u8 0, .int .u8 0, .int .i64 0] 24 fun x5 h => 
  charset_Sets_Put_c x5 (.int .i64 0) x1 h fun x7 h_1 => 
  sNe x0 (.int .i32 35) fun x9 =>
  sAnd x9 (fun k_5 =>
  sLt x0 (.int .i32 95) fun x12 =>
  sOr x12 (fun k_6 =>
  sGt x0 (.int .i32 126) fun x15 =>
  k_6 x15) fun x16 =>
  k_5 x16) fun x17 =>
  sIf x17 (charset_Sets_Map_c x5 x0 h_1 fun x19 h_2 => 
  sEq x19 x0 fun x21 =>
  sAndH x21 h_2 (fun k =>
  betonylaw25_awake_c  h_2 fun x23 h_4 => 
  k x23 h_4) fun x24 h_3 =>
  R x24 h_3) (charset_Sets_Map_c x5 x0 h_1 fun x26 h_5 => 
  sNe x26 x0 fun x28 =>
  sEq x1 (.int .u8 65) fun x30 =>
  sAnd x30 (fun k_4 =>
  sEq x0 (.int .i32 35) fun x33 =>
  k_4 x33) fun x34 =>
  sOr x34 (fun k_2 =>
  sEq x1 (.int .u8 48) fun x37 =>
  sAnd x37 (fun k_3 =>
  sNe x0 (.int .i32 35) fun x40 =>
  k_3 x40) fun x41 =>
  k_2 x41) fun x42 =>
  sEqlB x28 x42 fun x43 =>
  sAndH x43 h_5 (fun k_1 =>
  betonylaw25_awake_c  h_5 fun x45 h_7 => 
  k_1 x45 h_7) fun x46 h_6 =>
  R x46 h_6)
set_option maxRecDepth 100000 in
theorem betonylaw25_CharsetPlain_runs {x0 x1 : Value} {h : Heap} {R : Value → Heap → Prop} (H : betonylaw25_CharsetPlain_S x0 x1 h R) : betonylaw25_CharsetPlain_c x0 x1 h R := by
  unfold betonylaw25_CharsetPlain_S at H
  refine runs_of (b := ⟨#[x0, x1, undef, undef, undef, undef, undef, undef, undef, undef, undef, undef, undef, undef, undef, undef, undef, undef, undef, undef, undef, undef, undef, undef, undef, undef, undef, undef, undef, undef, undef, undef, undef, undef, undef, undef, undef, undef, undef, undef, undef, undef, undef, undef, undef, undef, undef], []⟩) Tryd.call3 Tryd.func3 rfl (by kernel_rfl) (fun w0 HA => ?_)
  refine wp_seq ?_
  refine lwp_list ?_
  refine ls_assign (x := (.bool false)) (by kernel_rfl) (by kernel_rfl) ?_
  refine ls_nil ?_
  refine then_normal ?_
  refine fr_eq (b := ⟨#[x0, x1, undef, undef, (.bool false), undef, undef, undef, undef, undef, undef, undef, undef, undef, undef, undef, undef, undef, undef, undef, undef, undef, undef, undef, undef, undef, undef, undef, undef, undef, undef, undef, undef, undef, undef, undef, undef, undef, undef, undef, undef, undef, undef, undef, undef, undef, undef], []⟩) (by kernel_rfl) ?_
  refine wp_seq ?_
  refine lwp_list ?_
  refine ls_d (d := some 5) (by kernel_rfl) (by kernel_rfl) HA (d_alloc Tryd.zeroValue24 H) (fun x5 h w H HA => ?_)
  refine ls_nil ?_
  refine then_normal ?_
  refine fr_eq (b := ⟨#[x0, x1, undef, undef, (.bool false), x5, undef, undef, undef, undef, undef, undef, undef, undef, undef, undef, undef, undef, undef, undef, undef, undef, undef, undef, undef, undef, undef, undef, undef, undef, undef, undef, undef, undef, undef, undef, undef, undef, undef, undef, undef, undef, undef, undef, undef, undef, undef], []⟩) (by kernel_rfl) ?_
  refine wp_seq ?_
  refine lwp_list ?_
  refine ls_move (x := x1) (by kernel_rfl) (by kernel_rfl) ?_
  refine ls_d (d := some 7) (by kernel_rfl) (by kernel_rfl) HA (d_call (by kernel_rfl) (by kernel_rfl) H) (fun x7 h_1 w_1 H HA_1 => ?_)
  refine ls_nil ?_
  refine then_normal ?_
  refine fr_eq (b := ⟨#[x0, x1, undef, undef, (.bool false), x5, x1, x7, undef, undef, undef, undef, undef, undef, undef, undef, undef, undef, undef, undef, undef, undef, undef, undef, undef, undef, undef, undef, undef, undef, undef, undef, undef, undef, undef, undef, undef, undef, undef, undef, undef, undef, undef, undef, undef, undef, undef], []⟩) (by kernel_rfl) ?_
  refine wp_seq ?_
  refine wp_seq ?_
  refine lwp_list ?_
  refine ls_move (x := x0) (by kernel_rfl) (by kernel_rfl) ?_
  refine ls_p (d := some 9) (by kernel_rfl) (by kernel_rfl) (p_sNe (by kernel_rfl) (by kernel_rfl) H) (fun x9 H => ?_)
  refine ls_move (x := x9) (by kernel_rfl) (by kernel_rfl) ?_
  refine ls_and [(), (), (), (), (), (), ()] (fun K a w => ∃ (D : Nat → Value) (x17 : Value), a = ⟨#[x0, x1, undef, undef, (.bool false), x5, x1, x7, x0, x9, x9, (D 0), (D 1), (D 2), (D 3), (D 4), (D 5), x17, undef, undef, undef, undef, undef, undef, undef, undef, undef, undef, undef, undef, undef, undef, undef, undef, undef, undef, undef, undef, undef, undef, undef, undef, undef, undef, undef, undef, undef], []⟩ ∧ At w0 w h_1 ∧ K x17) H (fun hb_5 H => ?_) (fun hb_5 H => ?_) ?_
  · refine ls_move (x := x0) (by rw [hb_5]; kernel_rfl) (by kernel_rfl) ?_
    refine ls_p (d := some 12) (by kernel_rfl) (by rw [hb_5]; kernel_rfl) (p_sLt (by kernel_rfl) (by kernel_rfl) H) (fun x12 H => ?_)
    refine ls_move (x := x12) (by rw [hb_5]; kernel_rfl) (by kernel_rfl) ?_
    refine ls_fr (b := ⟨#[x0, x1, undef, undef, (.bool false), x5, x1, x7, x0, x9, x9, x0, x12, x12, undef, undef, undef, undef, undef, undef, undef, undef, undef, undef, undef, undef, undef, undef, undef, undef, undef, undef, undef, undef, undef, undef, undef, undef, undef, undef, undef, undef, undef, undef, undef, undef, undef], []⟩) (by kernel_rfl) ?_
    refine ls_or [(), (), ()] (fun K a w => ∃ (D_6 : Nat → Value) (x16 : Value), a = ⟨#[x0, x1, undef, undef, (.bool false), x5, x1, x7, x0, x9, x9, x0, x12, x12, (D_6 0), (D_6 1), x16, undef, undef, undef, undef, undef, undef, undef, undef, undef, undef, undef, undef, undef, undef, undef, undef, undef, undef, undef, undef, undef, undef, undef, undef, undef, undef, undef, undef, undef, undef], []⟩ ∧ At w0 w h_1 ∧ K x16) H (fun hb_6 H => ?_) (fun hb_6 H => ?_) ?_
    · refine ls_move (x := x0) (by rw [hb_6]; kernel_rfl) (by kernel_rfl) ?_
      refine ls_p (d := some 15) (by kernel_rfl) (by rw [hb_6]; kernel_rfl) (p_sGt (by kernel_rfl) (by kernel_rfl) H) (fun x15 H => ?_)
      refine ls_pick_f (y := x15) (by rw [hb_5]; kernel_rfl) (by rw [hb_6]; kernel_rfl) (by kernel_rfl) ?_
      refine ls_nil ?_
      refine then_normal ?_
      exact ⟨(fun i => ([x0, x15]).getD i undef), x15, by kernel_rfl, HA_1, H⟩
    · refine ls_skip (d := some 14) (by kernel_rfl) (by rw [hb_6]; kernel_rfl) ?_
      refine ls_skip (d := some 15) (by kernel_rfl) (by rw [hb_6]; kernel_rfl) ?_
      refine ls_pick_t (x := (.bool true)) (by rw [hb_5]; kernel_rfl) (by rw [hb_6]; kernel_rfl) (by kernel_rfl) ?_
      refine ls_nil ?_
      refine then_normal ?_
      exact ⟨(fun i => ([undef, undef]).getD i undef), (.bool true), by kernel_rfl, HA_1, H⟩
    · rintro _ w_12 ⟨D_6, x16, rfl, HA_12, H⟩
      refine ls_pick_t (x := x16) (by kernel_rfl) (by rw [hb_5]; kernel_rfl) (by kernel_rfl) ?_
      refine ls_nil ?_
      refine then_normal ?_
      exact ⟨(fun i => ([x0, x12, x12, (D_6 0), (D_6 1), x16]).getD i undef), x16, by kernel_rfl, HA_12, H⟩
  · refine ls_skip (d := some 11) (by kernel_rfl) (by rw [hb_5]; kernel_rfl) ?_
    refine ls_skip (d := some 12) (by kernel_rfl) (by rw [hb_5]; kernel_rfl) ?_
    refine ls_skip (d := some 13) (by kernel_rfl) (by rw [hb_5]; kernel_rfl) ?_
    refine ls_fr (b := ⟨#[x0, x1, undef, undef, (.bool false), x5, x1, x7, x0, x9, x9, undef, undef, undef, undef, undef, undef, undef, undef, undef, undef, undef, undef, undef, undef, undef, undef, undef, undef, undef, undef, undef, undef, undef, undef, undef, undef, undef, undef, undef, undef, undef, undef, undef, undef, undef, undef], []⟩) (by kernel_rfl) ?_
    refine ls_skip (d := some 14) (by kernel_rfl) (by kernel_rfl) ?_
    refine ls_skip (d := some 15) (by kernel_rfl) (by kernel_rfl) ?_
    refine ls_skip (d := some 16) (by kernel_rfl) (by rw [hb_5]; kernel_rfl) ?_
    refine ls_pick_f (y := (.bool false)) (by kernel_rfl) (by rw [hb_5]; kernel_rfl) (by kernel_rfl) ?_
    refine ls_nil ?_
    refine then_normal ?_
    exact ⟨(fun i => ([undef, undef, undef, undef, undef, undef]).getD i undef), (.bool false), by kernel_rfl, HA_1, H⟩
  · rintro _ w_2 ⟨D, x17, rfl, HA_2, H⟩
    refine ls_nil ?_
    refine then_normal ?_
    refine fr_eq (b := ⟨#[x0, x1, undef, undef, (.bool false), x5, x1, x7, x0, x9, x9, (D 0), (D 1), (D 2), (D 3), (D 4), (D 5), x17, undef, undef, undef, undef, undef, undef, undef, undef, undef, undef, undef, undef, undef, undef, undef, undef, undef, undef, undef, undef, undef, undef, undef, undef, undef, undef, undef, undef, undef], []⟩) (by kernel_rfl) ?_
    refine wp_if rfl H (fun H => ?_) (fun H => ?_)
    · refine wp_seq ?_
      refine lwp_list ?_
      refine ls_move (x := x0) (by kernel_rfl) (by kernel_rfl) ?_
      refine ls_d (d := some 19) (by kernel_rfl) (by kernel_rfl) HA_2 (d_call (by kernel_rfl) (by kernel_rfl) H) (fun x19 h_2 w_3 H HA_3 => ?_)
      refine ls_move (x := x0) (by kernel_rfl) (by kernel_rfl) ?_
      refine ls_p (d := some 21) (by kernel_rfl) (by kernel_rfl) (p_sEq (by kernel_rfl) (by kernel_rfl) H) (fun x21 H => ?_)
      refine ls_move (x := x21) (by kernel_rfl) (by kernel_rfl) ?_
      refine ls_andh [(), ()] (fun K a w => ∃ (D_1 : Nat → Value) (x24 : Value) (h_3 : Heap), a = ⟨#[x0, x1, undef, undef, (.bool false), x5, x1, x7, x0, x9, x9, (D 0), (D 1), (D 2), (D 3), (D 4), (D 5), x17, x0, x19, x0, x21, x21, (D_1 0), x24, undef, undef, undef, undef, undef, undef, undef, undef, undef, undef, undef, undef, undef, undef, undef, undef, undef, undef, undef, undef, undef, undef], []⟩ ∧ At w0 w h_3 ∧ K x24 h_3) H (fun hb H => ?_) (fun hb H => ?_) ?_
      · refine ls_d (d := some 23) (by kernel_rfl) (by rw [hb]; kernel_rfl) HA_3 (d_call (by kernel_rfl) (by kernel_rfl) H) (fun x23 h_4 w_5 H HA_5 => ?_)
        refine ls_fr (b := ⟨#[x0, x1, undef, undef, (.bool false), x5, x1, x7, x0, x9, x9, (D 0), (D 1), (D 2), (D 3), (D 4), (D 5), x17, x0, x19, x0, x21, x21, x23, undef, undef, undef, undef, undef, undef, undef, undef, undef, undef, undef, undef, undef, undef, undef, undef, undef, undef, undef, undef, undef, undef, undef], []⟩) (by kernel_rfl) ?_
        refine ls_pick_t (x := x23) (by kernel_rfl) (by rw [hb]; kernel_rfl) (by kernel_rfl) ?_
        refine ls_nil ?_
        refine then_normal ?_
        exact ⟨(fun i => ([x23]).getD i undef), x23, h_4, by kernel_rfl, HA_5, H⟩
      · refine ls_skip (d := some 23) (by kernel_rfl) (by rw [hb]; kernel_rfl) ?_
        refine ls_fr (b := ⟨#[x0, x1, undef, undef, (.bool false), x5, x1, x7, x0, x9, x9, (D 0), (D 1), (D 2), (D 3), (D 4), (D 5), x17, x0, x19, x0, x21, x21, undef, undef, undef, undef, undef, undef, undef, undef, undef, undef, undef, undef, undef, undef, undef, undef, undef, undef, undef, undef, undef, undef, undef, undef], []⟩) (by kernel_rfl) ?_
        refine ls_pick_f (y := (.bool false)) (by kernel_rfl) (by rw [hb]; kernel_rfl) (by kernel_rfl) ?_
        refine ls_nil ?_
        refine then_normal ?_
        exact ⟨(fun i => ([undef]).getD i undef), (.bool false), h_2, by kernel_rfl, HA_3, H⟩
      · rintro _ w_4 ⟨D_1, x24, h_3, rfl, HA_4, H⟩
        refine ls_assign (x := x24) (by kernel_rfl) (by kernel_rfl) ?_
        refine ls_nil ?_
        refine then_normal ?_
        refine fr_eq (b := ⟨#[x0, x1, undef, undef, x24, x5, x1, x7, x0, x9, x9, (D 0), (D 1), (D 2), (D 3), (D 4), (D 5), x17, x0, x19, x0, x21, x21, (D_1 0), x24, undef, undef, undef, undef, undef, undef, undef, undef, undef, undef, undef, undef, undef, undef, undef, undef, undef, undef, undef, undef, undef, undef], []⟩) (by kernel_rfl) ?_
        refine wp_ret ?_
        refine then_ret ?_
        exact end1 (Tryd.results3) (by kernel_rfl) (by kernel_rfl) HA_4 H _ (.inr rfl)
    · refine wp_skip ?_
      refine then_normal ?_
      refine fr_eq (b := ⟨#[x0, x1, undef, undef, (.bool false), x5, x1, x7, x0, x9, x9, (D 0), (D 1), (D 2), (D 3), (D 4), (D 5), x17, undef, undef, undef, undef, undef, undef, undef, undef, undef, undef, undef, undef, undef, undef, undef, undef, undef, undef, undef, undef, undef, undef, undef, undef, undef, undef, undef, undef, undef], []⟩) (by kernel_rfl) ?_
      refine wp_seq ?_
      refine lwp_list ?_
      refine ls_move (x := x0) (by kernel_rfl) (by kernel_rfl) ?_
      refine ls_d (d := some 26) (by kernel_rfl) (by kernel_rfl) HA_2 (d_call (by kernel_rfl) (by kernel_rfl) H) (fun x26 h_5 w_6 H HA_6 => ?_)
      refine ls_move (x := x0) (by kernel_rfl) (by kernel_rfl) ?_
      refine ls_p (d := some 28) (by kernel_rfl) (by kernel_rfl) (p_sNe (by kernel_rfl) (by kernel_rfl) H) (fun x28 H => ?_)
      refine ls_move (x := x1) (by kernel_rfl) (by kernel_rfl) ?_
      refine ls_p (d := some 30) (by kernel_rfl) (by kernel_rfl) (p_sEq (by kernel_rfl) (by kernel_rfl) H) (fun x30 H => ?_)
      refine ls_fr (b := ⟨#[x0, x1, undef, undef, (.bool false), x5, x1, x7, x0, x9, x9, (D 0), (D 1), (D 2), (D 3), (D 4), (D 5), x17, undef, undef, undef, undef, undef, undef, undef, x0, x26, x0, x28, x1, x30, undef, undef, undef, undef, undef, undef, undef, undef, undef, undef, undef, undef, undef, undef, undef, undef], []⟩) (by kernel_rfl) ?_
      refine ls_move (x := x30) (by kernel_rfl) (by kernel_rfl) ?_
      refine ls_and [(), (), ()] (fun K a w => ∃ (D_2 : Nat → Value) (x34 : Value), a = ⟨#[x0, x1, undef, undef, (.bool false), x5, x1, x7, x0, x9, x9, (D 0), (D 1), (D 2), (D 3), (D 4), (D 5), x17, undef, undef, undef, undef, undef, undef, undef, x0, x26, x0, x28, x1, x30, x30, (D_2 0), (D_2 1), x34, undef, undef, undef, undef, undef, undef, undef, undef, undef, undef, undef, undef], []⟩ ∧ At w0 w h_5 ∧ K x34) H (fun hb_4 H => ?_) (fun hb_4 H => ?_) ?_
      · refine ls_move (x := x0) (by rw [hb_4]; kernel_rfl) (by kernel_rfl) ?_
        refine ls_p (d := some 33) (by kernel_rfl) (by rw [hb_4]; kernel_rfl) (p_sEq (by kernel_rfl) (by kernel_rfl) H) (fun x33 H => ?_)
        refine ls_pick_t (x := x33) (by kernel_rfl) (by rw [hb_4]; kernel_rfl) (by kernel_rfl) ?_
        refine ls_nil ?_
        refine then_normal ?_
        exact ⟨(fun i => ([x0, x33]).getD i undef), x33, by kernel_rfl, HA_6, H⟩
      · refine ls_skip (d := some 32) (by kernel_rfl) (by rw [hb_4]; kernel_rfl) ?_
        refine ls_skip (d := some 33) (by kernel_rfl) (by rw [hb_4]; kernel_rfl) ?_
        refine ls_pick_f (y := (.bool false)) (by kernel_rfl) (by rw [hb_4]; kernel_rfl) (by kernel_rfl) ?_
        refine ls_nil ?_
        refine then_normal ?_
        exact ⟨(fun i => ([undef, undef]).getD i undef), (.bool false), by kernel_rfl, HA_6, H⟩
      · rintro _ w_7 ⟨D_2, x34, rfl, HA_7, H⟩
        refine ls_move (x := x34) (by kernel_rfl) (by kernel_rfl) ?_
        refine ls_or [(), (), (), (), (), (), ()] (fun K a w => ∃ (D_3 : Nat → Value) (x42 : Value), a = ⟨#[x0, x1, undef, undef, (.bool false), x5, x1, x7, x0, x9, x9, (D 0), (D 1), (D 2), (D 3), (D 4), (D 5), x17, undef, undef, undef, undef, undef, undef, undef, x0, x26, x0, x28, x1, x30, x30, (D_2 0), (D_2 1), x34, x34, (D_3 0), (D_3 1), (D_3 2), (D_3 3), (D_3 4), (D_3 5), x42, undef, undef, undef, undef], []⟩ ∧ At w0 w h_5 ∧ K x42) H (fun hb_2 H => ?_) (fun hb_2 H => ?_) ?_
        · refine ls_move (x := x1) (by rw [hb_2]; kernel_rfl) (by kernel_rfl) ?_
          refine ls_p (d := some 37) (by kernel_rfl) (by rw [hb_2]; kernel_rfl) (p_sEq (by kernel_rfl) (by kernel_rfl) H) (fun x37 H => ?_)
          refine ls_move (x := x37) (by rw [hb_2]; kernel_rfl) (by kernel_rfl) ?_
          refine ls_and [(), (), ()] (fun K a w => ∃ (D_5 : Nat → Value) (x41 : Value), a = ⟨#[x0, x1, undef, undef, (.bool false), x5, x1, x7, x0, x9, x9, (D 0), (D 1), (D 2), (D 3), (D 4), (D 5), x17, undef, undef, undef, undef, undef, undef, undef, x0, x26, x0, x28, x1, x30, x30, (D_2 0), (D_2 1), x34, x34, x1, x37, x37, (D_5 0), (D_5 1), x41, undef, undef, undef, undef, undef], []⟩ ∧ At w0 w h_5 ∧ K x41) H (fun hb_3 H => ?_) (fun hb_3 H => ?_) ?_
          · refine ls_move (x := x0) (by rw [hb_3]; kernel_rfl) (by kernel_rfl) ?_
            refine ls_p (d := some 40) (by kernel_rfl) (by rw [hb_3]; kernel_rfl) (p_sNe (by kernel_rfl) (by kernel_rfl) H) (fun x40 H => ?_)
            refine ls_fr (b := ⟨#[x0, x1, undef, undef, (.bool false), x5, x1, x7, x0, x9, x9, (D 0), (D 1), (D 2), (D 3), (D 4), (D 5), x17, undef, undef, undef, undef, undef, undef, undef, x0, x26, x0, x28, x1, x30, x30, (D_2 0), (D_2 1), x34, x34, x1, x37, x37, x0, x40, undef, undef, undef, undef, undef, undef], []⟩) (by kernel_rfl) ?_
            refine ls_pick_t (x := x40) (by rw [hb_2]; kernel_rfl) (by rw [hb_3]; kernel_rfl) (by kernel_rfl) ?_
            refine ls_nil ?_
            refine then_normal ?_
            exact ⟨(fun i => ([x0, x40]).getD i undef), x40, by kernel_rfl, HA_7, H⟩
          · refine ls_skip (d := some 39) (by kernel_rfl) (by rw [hb_3]; kernel_rfl) ?_
            refine ls_skip (d := some 40) (by kernel_rfl) (by rw [hb_3]; kernel_rfl) ?_
            refine ls_fr (b := ⟨#[x0, x1, undef, undef, (.bool false), x5, x1, x7, x0, x9, x9, (D 0), (D 1), (D 2), (D 3), (D 4), (D 5), x17, undef, undef, undef, undef, undef, undef, undef, x0, x26, x0, x28, x1, x30, x30, (D_2 0), (D_2 1), x34, x34, x1, x37, x37, undef, undef, undef, undef, undef, undef, undef, undef], []⟩) (by kernel_rfl) ?_
            refine ls_pick_f (y := (.bool false)) (by rw [hb_2]; kernel_rfl) (by rw [hb_3]; kernel_rfl) (by kernel_rfl) ?_
            refine ls_nil ?_
            refine then_normal ?_
            exact ⟨(fun i => ([undef, undef]).getD i undef), (.bool false), by kernel_rfl, HA_7, H⟩
          · rintro _ w_11 ⟨D_5, x41, rfl, HA_11, H⟩
            refine ls_pick_f (y := x41) (by kernel_rfl) (by rw [hb_2]; kernel_rfl) (by kernel_rfl) ?_
            refine ls_nil ?_
            refine then_normal ?_
            exact ⟨(fun i => ([x1, x37, x37, (D_5 0), (D_5 1), x41]).getD i undef), x41, by kernel_rfl, HA_11, H⟩
        · refine ls_skip (d := some 36) (by kernel_rfl) (by rw [hb_2]; kernel_rfl) ?_
          refine ls_skip (d := some 37) (by kernel_rfl) (by rw [hb_2]; kernel_rfl) ?_
          refine ls_skip (d := some 38) (by kernel_rfl) (by rw [hb_2]; kernel_rfl) ?_
          refine ls_skip (d := some 39) (by kernel_rfl) (by kernel_rfl) ?_
          refine ls_skip (d := some 40) (by kernel_rfl) (by kernel_rfl) ?_
          refine ls_fr (b := ⟨#[x0, x1, undef, undef, (.bool false), x5, x1, x7, x0, x9, x9, (D 0), (D 1), (D 2), (D 3), (D 4), (D 5), x17, undef, undef, undef, undef, undef, undef, undef, x0, x26, x0, x28, x1, x30, x30, (D_2 0), (D_2 1), x34, x34, undef, undef, undef, undef, undef, undef, undef, undef, undef, undef, undef], []⟩) (by kernel_rfl) ?_
          refine ls_skip (d := some 41) (by kernel_rfl) (by rw [hb_2]; kernel_rfl) ?_
          refine ls_pick_t (x := (.bool true)) (by kernel_rfl) (by rw [hb_2]; kernel_rfl) (by kernel_rfl) ?_
          refine ls_nil ?_
          refine then_normal ?_
          exact ⟨(fun i => ([undef, undef, undef, undef, undef, undef]).getD i undef), (.bool true), by kernel_rfl, HA_7, H⟩
        · rintro _ w_8 ⟨D_3, x42, rfl, HA_8, H⟩
          refine ls_p (d := some 43) (by kernel_rfl) (by kernel_rfl) (p_eqlB Tryd.underlying4 (by kernel_rfl) (by kernel_rfl) H) (fun x43 H => ?_)
          refine ls_move (x := x43) (by kernel_rfl) (by kernel_rfl) ?_
          refine ls_andh [(), ()] (fun K a w => ∃ (D_4 : Nat → Value) (x46 : Value) (h_6 : Heap), a = ⟨#[x0, x1, undef, undef, (.bool false), x5, x1, x7, x0, x9, x9, (D 0), (D 1), (D 2), (D 3), (D 4), (D 5), x17, undef, undef, undef, undef, undef, undef, undef, x0, x26, x0, x28, x1, x30, x30, (D_2 0), (D_2 1), x34, x34, (D_3 0), (D_3 1), (D_3 2), (D_3 3), (D_3 4), (D_3 5), x42, x43, x43, (D_4 0), x46], []⟩ ∧ At w0 w h_6 ∧ K x46 h_6) H (fun hb_1 H => ?_) (fun hb_1 H => ?_) ?_
          · refine ls_d (d := some 45) (by kernel_rfl) (by rw [hb_1]; kernel_rfl) HA_8 (d_call (by kernel_rfl) (by kernel_rfl) H) (fun x45 h_7 w_10 H HA_10 => ?_)
            refine ls_pick_t (x := x45) (by kernel_rfl) (by rw [hb_1]; kernel_rfl) (by kernel_rfl) ?_
            refine ls_nil ?_
            refine then_normal ?_
            exact ⟨(fun i => ([x45]).getD i undef), x45, h_7, by kernel_rfl, HA_10, H⟩
          · refine ls_skip (d := some 45) (by kernel_rfl) (by rw [hb_1]; kernel_rfl) ?_
            refine ls_pick_f (y := (.bool false)) (by kernel_rfl) (by rw [hb_1]; kernel_rfl) (by kernel_rfl) ?_
            refine ls_nil ?_
            refine then_normal ?_
            exact ⟨(fun i => ([undef]).getD i undef), (.bool false), h_5, by kernel_rfl, HA_8, H⟩
          · rintro _ w_9 ⟨D_4, x46, h_6, rfl, HA_9, H⟩
            refine ls_assign (x := x46) (by kernel_rfl) (by kernel_rfl) ?_
            refine ls_nil ?_
            refine then_normal ?_
            refine fr_eq (b := ⟨#[x0, x1, undef, undef, x46, x5, x1, x7, x0, x9, x9, (D 0), (D 1), (D 2), (D 3), (D 4), (D 5), x17, undef, undef, undef, undef, undef, undef, undef, x0, x26, x0, x28, x1, x30, x30, (D_2 0), (D_2 1), x34, x34, (D_3 0), (D_3 1), (D_3 2), (D_3 3), (D_3 4), (D_3 5), x42, x43, x43, (D_4 0), x46], []⟩) (by kernel_rfl) ?_
            refine wp_ret ?_
            exact end1 (Tryd.results3) (by kernel_rfl) (by kernel_rfl) HA_9 H _ (.inr rfl)

end Go.Proofs.YtpgpbhbpamgboaaDoor
