/- The shallow reading of one function, and that the function does it. Written by a program. -/
import Derived.Test.YtlcklnbgknhhkaaFnC
set_option linter.unusedVariables false
namespace Go.Proofs.Ytlcklnbgknhhkaa
open Go Go.HW

def betonyref17_Map_j1 (R : Value → Heap → Prop) (x2 x5 : Value) (h_2 : Heap) : Prop :=
  sEq x5 (.int .i64 13) fun x14 =>
  sAndH x14 h_2 (fun k_2 =>
  sOff x2 0 fun x16 =>
  sLd h_2 x16 fun x17 =>
  betonyref17_Has_c x17 (.int .i64 2) h_2 fun x18 h_8 => 
  k_2 x18 h_8) fun x19 h_3 =>
  sIf x19 (R (.int .i64 (-1)) h_3) (sEq x5 (.int .i64 13) fun x21 =>
  sAndH x21 h_3 (fun k_1 =>
  sOff x2 0 fun x23 =>
  sLd h_3 x23 fun x24 =>
  betonyref17_Has_c x24 (.int .i64 4) h_3 fun x25 h_7 => 
  k_1 x25 h_7) fun x26 h_4 =>
  sIf x26 (R (.int .i64 10) h_4) (sEq x5 (.int .i64 10) fun x28 =>
  sAndH x28 h_4 (fun k =>
  sOff x2 0 fun x30 =>
  sLd h_4 x30 fun x31 =>
  betonyref17_Has_c x31 (.int .i64 8) h_4 fun x32 h_6 => 
  k x32 h_6) fun x33 h_5 =>
  sIf x33 (R (.int .i64 13) h_5) (R x5 h_5)))
def betonyref17_Map_S (x0 x1 : Value) (h : Heap) (R : Value → Heap → Prop) : Prop :=
  sBox h x0 28 fun x2 h => 
  sConv .i64 x1 fun x7 =>
  sOff x2 0 fun x8 =>
  sLd h x8 fun x9 =>
  betonyref17_Has_c x9 (.int .i64 1) h fun x10 h_1 => 
  sIf x10 (sRem .i64 x7 (.int .i64 128) fun x12 =>
  betonyref17_Map_j1 R x2 x12 h_1) (betonyref17_Map_j1 R x2 x7 h_1)
set_option maxRecDepth 100000 in
theorem betonyref17_Map_runs {x0 x1 : Value} {h : Heap} {R : Value → Heap → Prop} (H : betonyref17_Map_S x0 x1 h R) : betonyref17_Map_c x0 x1 h R := by
  unfold betonyref17_Map_S at H
  refine runs_of (b := ⟨#[x0, x1, undef, undef, undef, undef, undef, undef, undef, undef, undef, undef, undef, undef, undef, undef, undef, undef, undef, undef, undef, undef, undef, undef, undef, undef, undef, undef, undef, undef, undef, undef, undef, undef, undef], []⟩) Try.call46 Try.func46 rfl (by kernel_rfl) (fun w0 HA => ?_)
  refine wp_seq ?_
  refine lwp_list ?_
  refine ls_d (d := some 2) (by kernel_rfl) (by kernel_rfl) HA (d_box (by kernel_rfl) H) (fun x2 h w H HA => ?_)
  refine ls_assign (x := (.int .i64 0)) (by kernel_rfl) (by kernel_rfl) ?_
  refine ls_nil ?_
  refine then_normal ?_
  refine fr_eq (b := ⟨#[x0, x1, x2, undef, (.int .i64 0), undef, undef, undef, undef, undef, undef, undef, undef, undef, undef, undef, undef, undef, undef, undef, undef, undef, undef, undef, undef, undef, undef, undef, undef, undef, undef, undef, undef, undef, undef], []⟩) (by kernel_rfl) ?_
  refine wp_seq ?_
  refine lwp_list ?_
  refine ls_move (x := x1) (by kernel_rfl) (by kernel_rfl) ?_
  refine ls_p (d := some 7) (by kernel_rfl) (by kernel_rfl) (p_conv Try.underlying5 Try.underlying3 (by kernel_rfl) H) (fun x7 H => ?_)
  refine ls_assign (x := x7) (by kernel_rfl) (by kernel_rfl) ?_
  refine ls_nil ?_
  refine then_normal ?_
  refine fr_eq (b := ⟨#[x0, x1, x2, undef, (.int .i64 0), x7, x1, x7, undef, undef, undef, undef, undef, undef, undef, undef, undef, undef, undef, undef, undef, undef, undef, undef, undef, undef, undef, undef, undef, undef, undef, undef, undef, undef, undef], []⟩) (by kernel_rfl) ?_
  refine wp_seq ?_
  refine wp_seq ?_
  refine lwp_list ?_
  refine ls_p (d := some 8) (by kernel_rfl) (by kernel_rfl) (p_off Try.underlying28 rfl (fun w => ⟨_, Try.sizeOf3 w⟩) rfl (by kernel_rfl) H) (fun x8 H => ?_)
  refine ls_y (d := some 9) (by kernel_rfl) (by kernel_rfl) HA (y_ld Try.isAgg3 (by kernel_rfl) H) (fun x9 H => ?_)
  refine ls_d (d := some 10) (by kernel_rfl) (by kernel_rfl) HA (d_call (by kernel_rfl) (by kernel_rfl) H) (fun x10 h_1 w_1 H HA_1 => ?_)
  refine ls_nil ?_
  refine then_normal ?_
  refine fr_eq (b := ⟨#[x0, x1, x2, undef, (.int .i64 0), x7, x1, x7, x8, x9, x10, undef, undef, undef, undef, undef, undef, undef, undef, undef, undef, undef, undef, undef, undef, undef, undef, undef, undef, undef, undef, undef, undef, undef, undef], []⟩) (by kernel_rfl) ?_
  refine wp_join (fun a w => ∃ (D : Nat → Value) (x5 : Value) (h_2 : Heap), a = ⟨#[x0, x1, x2, undef, (.int .i64 0), x5, x1, x7, x8, x9, x10, (D 0), (D 1), undef, undef, undef, undef, undef, undef, undef, undef, undef, undef, undef, undef, undef, undef, undef, undef, undef, undef, undef, undef, undef, undef], []⟩ ∧ At w0 w h_2 ∧ betonyref17_Map_j1 R x2 x5 h_2) ?_ ?_
  · refine wp_if rfl H (fun H => ?_) (fun H => ?_)
    · refine lwp_list ?_
      refine ls_move (x := x7) (by kernel_rfl) (by kernel_rfl) ?_
      refine ls_p (d := some 12) (by kernel_rfl) (by kernel_rfl) (p_rem (by kernel_rfl) (by kernel_rfl) H) (fun x12 H => ?_)
      refine ls_assign (x := x12) (by kernel_rfl) (by kernel_rfl) ?_
      refine ls_nil ?_
      exact ⟨(fun i => ([x7, x12]).getD i undef), x12, h_1, by kernel_rfl, HA_1, H⟩
    · refine wp_skip ?_
      exact ⟨(fun i => ([undef, undef]).getD i undef), x7, h_1, by kernel_rfl, HA_1, H⟩
  · rintro _ w_2 ⟨D, x5, h_2, rfl, HA_2, H⟩
    unfold betonyref17_Map_j1 at H
    refine then_normal ?_
    refine fr_eq (b := ⟨#[x0, x1, x2, undef, (.int .i64 0), x5, x1, x7, x8, x9, x10, (D 0), (D 1), undef, undef, undef, undef, undef, undef, undef, undef, undef, undef, undef, undef, undef, undef, undef, undef, undef, undef, undef, undef, undef, undef], []⟩) (by kernel_rfl) ?_
    refine wp_seq ?_
    refine wp_seq ?_
    refine lwp_list ?_
    refine ls_move (x := x5) (by kernel_rfl) (by kernel_rfl) ?_
    refine ls_p (d := some 14) (by kernel_rfl) (by kernel_rfl) (p_sEq (by kernel_rfl) (by kernel_rfl) H) (fun x14 H => ?_)
    refine ls_move (x := x14) (by kernel_rfl) (by kernel_rfl) ?_
    refine ls_andh [(), (), (), ()] (fun K a w => ∃ (D_1 : Nat → Value) (x19 : Value) (h_3 : Heap), a = ⟨#[x0, x1, x2, undef, (.int .i64 0), x5, x1, x7, x8, x9, x10, (D 0), (D 1), x5, x14, x14, (D_1 0), (D_1 1), (D_1 2), x19, undef, undef, undef, undef, undef, undef, undef, undef, undef, undef, undef, undef, undef, undef, undef], []⟩ ∧ At w0 w h_3 ∧ K x19 h_3) H (fun hb_2 H => ?_) (fun hb_2 H => ?_) ?_
    · refine ls_p (d := some 16) (by kernel_rfl) (by rw [hb_2]; kernel_rfl) (p_off Try.underlying28 rfl (fun w => ⟨_, Try.sizeOf3 w⟩) rfl (by kernel_rfl) H) (fun x16 H => ?_)
      refine ls_y (d := some 17) (by kernel_rfl) (by rw [hb_2]; kernel_rfl) HA_2 (y_ld Try.isAgg3 (by kernel_rfl) H) (fun x17 H => ?_)
      refine ls_d (d := some 18) (by kernel_rfl) (by rw [hb_2]; kernel_rfl) HA_2 (d_call (by kernel_rfl) (by kernel_rfl) H) (fun x18 h_8 w_8 H HA_8 => ?_)
      refine ls_fr (b := ⟨#[x0, x1, x2, undef, (.int .i64 0), x5, x1, x7, x8, x9, x10, (D 0), (D 1), x5, x14, x14, x16, x17, x18, undef, undef, undef, undef, undef, undef, undef, undef, undef, undef, undef, undef, undef, undef, undef, undef], []⟩) (by kernel_rfl) ?_
      refine ls_pick_t (x := x18) (by kernel_rfl) (by rw [hb_2]; kernel_rfl) (by kernel_rfl) ?_
      refine ls_nil ?_
      refine then_normal ?_
      exact ⟨(fun i => ([x16, x17, x18]).getD i undef), x18, h_8, by kernel_rfl, HA_8, H⟩
    · refine ls_skip (d := some 16) (by kernel_rfl) (by rw [hb_2]; kernel_rfl) ?_
      refine ls_skip (d := some 17) (by kernel_rfl) (by rw [hb_2]; kernel_rfl) ?_
      refine ls_skip (d := some 18) (by kernel_rfl) (by rw [hb_2]; kernel_rfl) ?_
      refine ls_fr (b := ⟨#[x0, x1, x2, undef, (.int .i64 0), x5, x1, x7, x8, x9, x10, (D 0), (D 1), x5, x14, x14, undef, undef, undef, undef, undef, undef, undef, undef, undef, undef, undef, undef, undef, undef, undef, undef, undef, undef, undef], []⟩) (by kernel_rfl) ?_
      refine ls_pick_f (y := (.bool false)) (by kernel_rfl) (by rw [hb_2]; kernel_rfl) (by kernel_rfl) ?_
      refine ls_nil ?_
      refine then_normal ?_
      exact ⟨(fun i => ([undef, undef, undef]).getD i undef), (.bool false), h_2, by kernel_rfl, HA_2, H⟩
    · rintro _ w_3 ⟨D_1, x19, h_3, rfl, HA_3, H⟩
      refine ls_nil ?_
      refine then_normal ?_
      refine fr_eq (b := ⟨#[x0, x1, x2, undef, (.int .i64 0), x5, x1, x7, x8, x9, x10, (D 0), (D 1), x5, x14, x14, (D_1 0), (D_1 1), (D_1 2), x19, undef, undef, undef, undef, undef, undef, undef, undef, undef, undef, undef, undef, undef, undef, undef], []⟩) (by kernel_rfl) ?_
      refine wp_if rfl H (fun H => ?_) (fun H => ?_)
      · refine wp_seq ?_
        refine lwp_list ?_
        refine ls_assign (x := (.int .i64 (-1))) (by kernel_rfl) (by kernel_rfl) ?_
        refine ls_nil ?_
        refine then_normal ?_
        refine fr_eq (b := ⟨#[x0, x1, x2, undef, (.int .i64 (-1)), x5, x1, x7, x8, x9, x10, (D 0), (D 1), x5, x14, x14, (D_1 0), (D_1 1), (D_1 2), x19, undef, undef, undef, undef, undef, undef, undef, undef, undef, undef, undef, undef, undef, undef, undef], []⟩) (by kernel_rfl) ?_
        refine wp_ret ?_
        refine then_ret ?_
        exact end1 (Try.results46) (by kernel_rfl) (by kernel_rfl) HA_3 H _ (.inr rfl)
      · refine wp_skip ?_
        refine then_normal ?_
        refine fr_eq (b := ⟨#[x0, x1, x2, undef, (.int .i64 0), x5, x1, x7, x8, x9, x10, (D 0), (D 1), x5, x14, x14, (D_1 0), (D_1 1), (D_1 2), x19, undef, undef, undef, undef, undef, undef, undef, undef, undef, undef, undef, undef, undef, undef, undef], []⟩) (by kernel_rfl) ?_
        refine wp_seq ?_
        refine wp_seq ?_
        refine lwp_list ?_
        refine ls_move (x := x5) (by kernel_rfl) (by kernel_rfl) ?_
        refine ls_p (d := some 21) (by kernel_rfl) (by kernel_rfl) (p_sEq (by kernel_rfl) (by kernel_rfl) H) (fun x21 H => ?_)
        refine ls_move (x := x21) (by kernel_rfl) (by kernel_rfl) ?_
        refine ls_andh [(), (), (), ()] (fun K a w => ∃ (D_2 : Nat → Value) (x26 : Value) (h_4 : Heap), a = ⟨#[x0, x1, x2, undef, (.int .i64 0), x5, x1, x7, x8, x9, x10, (D 0), (D 1), x5, x14, x14, (D_1 0), (D_1 1), (D_1 2), x19, x5, x21, x21, (D_2 0), (D_2 1), (D_2 2), x26, undef, undef, undef, undef, undef, undef, undef, undef], []⟩ ∧ At w0 w h_4 ∧ K x26 h_4) H (fun hb_1 H => ?_) (fun hb_1 H => ?_) ?_
        · refine ls_p (d := some 23) (by kernel_rfl) (by rw [hb_1]; kernel_rfl) (p_off Try.underlying28 rfl (fun w => ⟨_, Try.sizeOf3 w⟩) rfl (by kernel_rfl) H) (fun x23 H => ?_)
          refine ls_y (d := some 24) (by kernel_rfl) (by rw [hb_1]; kernel_rfl) HA_3 (y_ld Try.isAgg3 (by kernel_rfl) H) (fun x24 H => ?_)
          refine ls_d (d := some 25) (by kernel_rfl) (by rw [hb_1]; kernel_rfl) HA_3 (d_call (by kernel_rfl) (by kernel_rfl) H) (fun x25 h_7 w_7 H HA_7 => ?_)
          refine ls_fr (b := ⟨#[x0, x1, x2, undef, (.int .i64 0), x5, x1, x7, x8, x9, x10, (D 0), (D 1), x5, x14, x14, (D_1 0), (D_1 1), (D_1 2), x19, x5, x21, x21, x23, x24, x25, undef, undef, undef, undef, undef, undef, undef, undef, undef], []⟩) (by kernel_rfl) ?_
          refine ls_pick_t (x := x25) (by kernel_rfl) (by rw [hb_1]; kernel_rfl) (by kernel_rfl) ?_
          refine ls_nil ?_
          refine then_normal ?_
          exact ⟨(fun i => ([x23, x24, x25]).getD i undef), x25, h_7, by kernel_rfl, HA_7, H⟩
        · refine ls_skip (d := some 23) (by kernel_rfl) (by rw [hb_1]; kernel_rfl) ?_
          refine ls_skip (d := some 24) (by kernel_rfl) (by rw [hb_1]; kernel_rfl) ?_
          refine ls_skip (d := some 25) (by kernel_rfl) (by rw [hb_1]; kernel_rfl) ?_
          refine ls_fr (b := ⟨#[x0, x1, x2, undef, (.int .i64 0), x5, x1, x7, x8, x9, x10, (D 0), (D 1), x5, x14, x14, (D_1 0), (D_1 1), (D_1 2), x19, x5, x21, x21, undef, undef, undef, undef, undef, undef, undef, undef, undef, undef, undef, undef], []⟩) (by kernel_rfl) ?_
          refine ls_pick_f (y := (.bool false)) (by kernel_rfl) (by rw [hb_1]; kernel_rfl) (by kernel_rfl) ?_
          refine ls_nil ?_
          refine then_normal ?_
          exact ⟨(fun i => ([undef, undef, undef]).getD i undef), (.bool false), h_3, by kernel_rfl, HA_3, H⟩
        · rintro _ w_4 ⟨D_2, x26, h_4, rfl, HA_4, H⟩
          refine ls_nil ?_
          refine then_normal ?_
          refine fr_eq (b := ⟨#[x0, x1, x2, undef, (.int .i64 0), x5, x1, x7, x8, x9, x10, (D 0), (D 1), x5, x14, x14, (D_1 0), (D_1 1), (D_1 2), x19, x5, x21, x21, (D_2 0), (D_2 1), (D_2 2), x26, undef, undef, undef, undef, undef, undef, undef, undef], []⟩) (by kernel_rfl) ?_
          refine wp_if rfl H (fun H => ?_) (fun H => ?_)
          · refine wp_seq ?_
            refine lwp_list ?_
            refine ls_assign (x := (.int .i64 10)) (by kernel_rfl) (by kernel_rfl) ?_
            refine ls_nil ?_
            refine then_normal ?_
            refine fr_eq (b := ⟨#[x0, x1, x2, undef, (.int .i64 10), x5, x1, x7, x8, x9, x10, (D 0), (D 1), x5, x14, x14, (D_1 0), (D_1 1), (D_1 2), x19, x5, x21, x21, (D_2 0), (D_2 1), (D_2 2), x26, undef, undef, undef, undef, undef, undef, undef, undef], []⟩) (by kernel_rfl) ?_
            refine wp_ret ?_
            refine then_ret ?_
            exact end1 (Try.results46) (by kernel_rfl) (by kernel_rfl) HA_4 H _ (.inr rfl)
          · refine wp_skip ?_
            refine then_normal ?_
            refine fr_eq (b := ⟨#[x0, x1, x2, undef, (.int .i64 0), x5, x1, x7, x8, x9, x10, (D 0), (D 1), x5, x14, x14, (D_1 0), (D_1 1), (D_1 2), x19, x5, x21, x21, (D_2 0), (D_2 1), (D_2 2), x26, undef, undef, undef, undef, undef, undef, undef, undef], []⟩) (by kernel_rfl) ?_
            refine wp_seq ?_
            refine wp_seq ?_
            refine lwp_list ?_
            refine ls_move (x := x5) (by kernel_rfl) (by kernel_rfl) ?_
            refine ls_p (d := some 28) (by kernel_rfl) (by kernel_rfl) (p_sEq (by kernel_rfl) (by kernel_rfl) H) (fun x28 H => ?_)
            refine ls_move (x := x28) (by kernel_rfl) (by kernel_rfl) ?_
            refine ls_andh [(), (), (), ()] (fun K a w => ∃ (D_3 : Nat → Value) (x33 : Value) (h_5 : Heap), a = ⟨#[x0, x1, x2, undef, (.int .i64 0), x5, x1, x7, x8, x9, x10, (D 0), (D 1), x5, x14, x14, (D_1 0), (D_1 1), (D_1 2), x19, x5, x21, x21, (D_2 0), (D_2 1), (D_2 2), x26, x5, x28, x28, (D_3 0), (D_3 1), (D_3 2), x33, undef], []⟩ ∧ At w0 w h_5 ∧ K x33 h_5) H (fun hb H => ?_) (fun hb H => ?_) ?_
            · refine ls_p (d := some 30) (by kernel_rfl) (by rw [hb]; kernel_rfl) (p_off Try.underlying28 rfl (fun w => ⟨_, Try.sizeOf3 w⟩) rfl (by kernel_rfl) H) (fun x30 H => ?_)
              refine ls_y (d := some 31) (by kernel_rfl) (by rw [hb]; kernel_rfl) HA_4 (y_ld Try.isAgg3 (by kernel_rfl) H) (fun x31 H => ?_)
              refine ls_d (d := some 32) (by kernel_rfl) (by rw [hb]; kernel_rfl) HA_4 (d_call (by kernel_rfl) (by kernel_rfl) H) (fun x32 h_6 w_6 H HA_6 => ?_)
              refine ls_fr (b := ⟨#[x0, x1, x2, undef, (.int .i64 0), x5, x1, x7, x8, x9, x10, (D 0), (D 1), x5, x14, x14, (D_1 0), (D_1 1), (D_1 2), x19, x5, x21, x21, (D_2 0), (D_2 1), (D_2 2), x26, x5, x28, x28, x30, x31, x32, undef, undef], []⟩) (by kernel_rfl) ?_
              refine ls_pick_t (x := x32) (by kernel_rfl) (by rw [hb]; kernel_rfl) (by kernel_rfl) ?_
              refine ls_nil ?_
              refine then_normal ?_
              exact ⟨(fun i => ([x30, x31, x32]).getD i undef), x32, h_6, by kernel_rfl, HA_6, H⟩
            · refine ls_skip (d := some 30) (by kernel_rfl) (by rw [hb]; kernel_rfl) ?_
              refine ls_skip (d := some 31) (by kernel_rfl) (by rw [hb]; kernel_rfl) ?_
              refine ls_skip (d := some 32) (by kernel_rfl) (by rw [hb]; kernel_rfl) ?_
              refine ls_fr (b := ⟨#[x0, x1, x2, undef, (.int .i64 0), x5, x1, x7, x8, x9, x10, (D 0), (D 1), x5, x14, x14, (D_1 0), (D_1 1), (D_1 2), x19, x5, x21, x21, (D_2 0), (D_2 1), (D_2 2), x26, x5, x28, x28, undef, undef, undef, undef, undef], []⟩) (by kernel_rfl) ?_
              refine ls_pick_f (y := (.bool false)) (by kernel_rfl) (by rw [hb]; kernel_rfl) (by kernel_rfl) ?_
              refine ls_nil ?_
              refine then_normal ?_
              exact ⟨(fun i => ([undef, undef, undef]).getD i undef), (.bool false), h_4, by kernel_rfl, HA_4, H⟩
            · rintro _ w_5 ⟨D_3, x33, h_5, rfl, HA_5, H⟩
              refine ls_nil ?_
              refine then_normal ?_
              refine fr_eq (b := ⟨#[x0, x1, x2, undef, (.int .i64 0), x5, x1, x7, x8, x9, x10, (D 0), (D 1), x5, x14, x14, (D_1 0), (D_1 1), (D_1 2), x19, x5, x21, x21, (D_2 0), (D_2 1), (D_2 2), x26, x5, x28, x28, (D_3 0), (D_3 1), (D_3 2), x33, undef], []⟩) (by kernel_rfl) ?_
              refine wp_if rfl H (fun H => ?_) (fun H => ?_)
              · refine wp_seq ?_
                refine lwp_list ?_
                refine ls_assign (x := (.int .i64 13)) (by kernel_rfl) (by kernel_rfl) ?_
                refine ls_nil ?_
                refine then_normal ?_
                refine fr_eq (b := ⟨#[x0, x1, x2, undef, (.int .i64 13), x5, x1, x7, x8, x9, x10, (D 0), (D 1), x5, x14, x14, (D_1 0), (D_1 1), (D_1 2), x19, x5, x21, x21, (D_2 0), (D_2 1), (D_2 2), x26, x5, x28, x28, (D_3 0), (D_3 1), (D_3 2), x33, undef], []⟩) (by kernel_rfl) ?_
                refine wp_ret ?_
                refine then_ret ?_
                exact end1 (Try.results46) (by kernel_rfl) (by kernel_rfl) HA_5 H _ (.inr rfl)
              · refine wp_skip ?_
                refine then_normal ?_
                refine fr_eq (b := ⟨#[x0, x1, x2, undef, (.int .i64 0), x5, x1, x7, x8, x9, x10, (D 0), (D 1), x5, x14, x14, (D_1 0), (D_1 1), (D_1 2), x19, x5, x21, x21, (D_2 0), (D_2 1), (D_2 2), x26, x5, x28, x28, (D_3 0), (D_3 1), (D_3 2), x33, undef], []⟩) (by kernel_rfl) ?_
                refine wp_seq ?_
                refine lwp_list ?_
                refine ls_move (x := x5) (by kernel_rfl) (by kernel_rfl) ?_
                refine ls_assign (x := x5) (by kernel_rfl) (by kernel_rfl) ?_
                refine ls_nil ?_
                refine then_normal ?_
                refine fr_eq (b := ⟨#[x0, x1, x2, undef, x5, x5, x1, x7, x8, x9, x10, (D 0), (D 1), x5, x14, x14, (D_1 0), (D_1 1), (D_1 2), x19, x5, x21, x21, (D_2 0), (D_2 1), (D_2 2), x26, x5, x28, x28, (D_3 0), (D_3 1), (D_3 2), x33, x5], []⟩) (by kernel_rfl) ?_
                refine wp_ret ?_
                exact end1 (Try.results46) (by kernel_rfl) (by kernel_rfl) HA_5 H _ (.inr rfl)

end Go.Proofs.Ytlcklnbgknhhkaa
