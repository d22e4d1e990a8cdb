/- The shallow reading of one function, and that the function does it. Written by a program. -/
import Derived.Test.YtbgipcikkedloaaDoorFnC
set_option linter.unusedVariables false
namespace Go.Proofs.YtbgipcikkedloaaDoor
open Go Go.HW

def betonylaw03_WideFits_S (x0 x1 : Value) (h : Heap) (R : Value → Heap → Prop) : Prop :=
  sLen x0 fun x7 =>
  sGt x7 (.int .i64 100) fun x8 =>
  sIf x8 (betonylaw03_awake_c  h fun x9 h => 
  R x9 h) (wide_Fit_c x0 x1 h fun x12 h_1 => 
  wide_Text_c x0 h_1 fun x14 h_2 => 
  betonyref03_Text_c x0 h_2 fun x16 h_3 => 
  sNe x14 x16 fun x17 =>
  sOrH x17 h_3 (fun k_4 =>
  betonyref03_Fit_c x0 x1 h_3 fun x22 h_12 => 
  sNe x12 x22 fun x23 =>
  k_4 x23 h_12) fun x24 h_4 =>
  sOrH x24 h_4 (fun k_2 =>
  sGt x12 (.int .i64 0) fun x27 =>
  sAndH x27 h_4 (fun k_3 =>
  sSl x0 none (some x12) 1 fun x31 =>
  wide_Text_c x31 h_4 fun x32 h_11 => 
  sGt x32 x1 fun x34 =>
  k_3 x34 h_11) fun x35 h_10 =>
  k_2 x35 h_10) fun x36 h_5 =>
  sIf x36 (R (.bool false) h_5) (sLen x0 fun x39 =>
  sEq x12 x39 fun x40 =>
  sOrH x40 h_5 (fun k_1 =>
  sAdd .i64 x12 (.int .i64 1) fun x44 =>
  sSl x0 none (some x44) 1 fun x45 =>
  wide_Text_c x45 h_5 fun x46 h_9 => 
  sGt x46 x1 fun x48 =>
  k_1 x48 h_9) fun x49 h_6 =>
  sAndH x49 h_6 (fun k =>
  betonylaw03_awake_c  h_6 fun x51 h_8 => 
  k x51 h_8) fun x52 h_7 =>
  R x52 h_7))
set_option maxRecDepth 100000 in
theorem betonylaw03_WideFits_runs {x0 x1 : Value} {h : Heap} {R : Value → Heap → Prop} (H : betonylaw03_WideFits_S x0 x1 h R) : betonylaw03_WideFits_c x0 x1 h R := by
  unfold betonylaw03_WideFits_S at H
  refine runs_of (b := ⟨#[x0, x1, undef, undef, undef, undef, undef, undef, undef, undef, undef, undef, undef, undef, undef, undef, undef, undef, undef, undef, undef, undef, undef, undef, undef, undef, undef, undef, undef, undef, undef, undef, undef, undef, undef, undef, undef, undef, undef, undef, undef, undef, undef, undef, undef, undef, undef, undef, undef, undef, undef, undef, undef], []⟩) Tryd.call4 Tryd.func4 rfl (by kernel_rfl) (fun w0 HA => ?_)
  refine wp_seq ?_
  refine lwp_list ?_
  refine ls_assign (x := (.bool false)) (by kernel_rfl) (by kernel_rfl) ?_
  refine ls_nil ?_
  refine then_normal ?_
  refine fr_eq (b := ⟨#[x0, x1, undef, undef, (.bool false), undef, undef, undef, undef, undef, undef, undef, undef, undef, undef, undef, undef, undef, undef, undef, undef, undef, undef, undef, undef, undef, undef, undef, undef, undef, undef, undef, undef, undef, undef, undef, undef, undef, undef, undef, undef, undef, undef, undef, undef, undef, undef, undef, undef, undef, undef, undef, undef], []⟩) (by kernel_rfl) ?_
  refine wp_seq ?_
  refine wp_seq ?_
  refine lwp_list ?_
  refine ls_move (x := x0) (by kernel_rfl) (by kernel_rfl) ?_
  refine ls_p (d := some 7) (by kernel_rfl) (by kernel_rfl) (p_len Tryd.underlying26 (by kernel_rfl) H) (fun x7 H => ?_)
  refine ls_p (d := some 8) (by kernel_rfl) (by kernel_rfl) (p_sGt (by kernel_rfl) (by kernel_rfl) H) (fun x8 H => ?_)
  refine ls_nil ?_
  refine then_normal ?_
  refine fr_eq (b := ⟨#[x0, x1, undef, undef, (.bool false), undef, x0, x7, x8, undef, undef, undef, undef, undef, undef, undef, undef, undef, undef, undef, undef, undef, undef, undef, undef, undef, undef, undef, undef, undef, undef, undef, undef, undef, undef, undef, undef, undef, undef, undef, undef, undef, undef, undef, undef, undef, undef, undef, undef, undef, undef, undef, undef], []⟩) (by kernel_rfl) ?_
  refine wp_if rfl H (fun H => ?_) (fun H => ?_)
  · refine wp_seq ?_
    refine lwp_list ?_
    refine ls_d (d := some 9) (by kernel_rfl) (by kernel_rfl) HA (d_call (by kernel_rfl) (by kernel_rfl) H) (fun x9 h w H HA => ?_)
    refine ls_assign (x := x9) (by kernel_rfl) (by kernel_rfl) ?_
    refine ls_nil ?_
    refine then_normal ?_
    refine fr_eq (b := ⟨#[x0, x1, undef, undef, x9, undef, x0, x7, x8, x9, undef, undef, undef, undef, undef, undef, undef, undef, undef, undef, undef, undef, undef, undef, undef, undef, undef, undef, undef, undef, undef, undef, undef, undef, undef, undef, undef, undef, undef, undef, undef, undef, undef, undef, undef, undef, undef, undef, undef, undef, undef, undef, undef], []⟩) (by kernel_rfl) ?_
    refine wp_ret ?_
    refine then_ret ?_
    exact end1 (Tryd.results4) (by kernel_rfl) (by kernel_rfl) HA H _ (.inr rfl)
  · refine wp_skip ?_
    refine then_normal ?_
    refine fr_eq (b := ⟨#[x0, x1, undef, undef, (.bool false), undef, x0, x7, x8, undef, undef, undef, undef, undef, undef, undef, undef, undef, undef, undef, undef, undef, undef, undef, undef, undef, undef, undef, undef, undef, undef, undef, undef, undef, undef, undef, undef, undef, undef, undef, undef, undef, undef, undef, undef, undef, undef, undef, undef, undef, undef, undef, undef], []⟩) (by kernel_rfl) ?_
    refine wp_seq ?_
    refine lwp_list ?_
    refine ls_move (x := x0) (by kernel_rfl) (by kernel_rfl) ?_
    refine ls_move (x := x1) (by kernel_rfl) (by kernel_rfl) ?_
    refine ls_d (d := some 12) (by kernel_rfl) (by kernel_rfl) HA (d_call (by kernel_rfl) (by kernel_rfl) H) (fun x12 h_1 w_1 H HA_1 => ?_)
    refine ls_assign (x := x12) (by kernel_rfl) (by kernel_rfl) ?_
    refine ls_nil ?_
    refine then_normal ?_
    refine fr_eq (b := ⟨#[x0, x1, undef, undef, (.bool false), x12, x0, x7, x8, undef, x0, x1, x12, undef, undef, undef, undef, undef, undef, undef, undef, undef, undef, undef, undef, undef, undef, undef, undef, undef, undef, undef, undef, undef, undef, undef, undef, undef, undef, undef, undef, undef, undef, undef, undef, undef, undef, undef, undef, undef, undef, undef, undef], []⟩) (by kernel_rfl) ?_
    refine wp_seq ?_
    refine wp_seq ?_
    refine lwp_list ?_
    refine ls_move (x := x0) (by kernel_rfl) (by kernel_rfl) ?_
    refine ls_d (d := some 14) (by kernel_rfl) (by kernel_rfl) HA_1 (d_call (by kernel_rfl) (by kernel_rfl) H) (fun x14 h_2 w_2 H HA_2 => ?_)
    refine ls_move (x := x0) (by kernel_rfl) (by kernel_rfl) ?_
    refine ls_d (d := some 16) (by kernel_rfl) (by kernel_rfl) HA_2 (d_call (by kernel_rfl) (by kernel_rfl) H) (fun x16 h_3 w_3 H HA_3 => ?_)
    refine ls_p (d := some 17) (by kernel_rfl) (by kernel_rfl) (p_sNe (by kernel_rfl) (by kernel_rfl) H) (fun x17 H => ?_)
    refine ls_move (x := x17) (by kernel_rfl) (by kernel_rfl) ?_
    refine ls_fr (b := ⟨#[x0, x1, undef, undef, (.bool false), x12, x0, x7, x8, undef, x0, x1, x12, x0, x14, x0, x16, x17, x17, undef, undef, undef, undef, undef, undef, undef, undef, undef, undef, undef, undef, undef, undef, undef, undef, undef, undef, undef, undef, undef, undef, undef, undef, undef, undef, undef, undef, undef, undef, undef, undef, undef, undef], []⟩) (by kernel_rfl) ?_
    refine ls_orh [(), (), (), (), (), ()] (fun K a w => ∃ (D : Nat → Value) (x24 : Value) (h_4 : Heap), a = ⟨#[x0, x1, undef, undef, (.bool false), x12, x0, x7, x8, undef, x0, x1, x12, x0, x14, x0, x16, x17, x17, (D 0), (D 1), (D 2), (D 3), (D 4), x24, undef, undef, undef, undef, undef, undef, undef, undef, undef, undef, undef, undef, undef, undef, undef, undef, undef, undef, undef, undef, undef, undef, undef, undef, undef, undef, undef, undef], []⟩ ∧ At w0 w h_4 ∧ K x24 h_4) H (fun hb_4 H => ?_) (fun hb_4 H => ?_) ?_
    · refine ls_move (x := x12) (by rw [hb_4]; kernel_rfl) (by kernel_rfl) ?_
      refine ls_move (x := x0) (by rw [hb_4]; kernel_rfl) (by kernel_rfl) ?_
      refine ls_move (x := x1) (by rw [hb_4]; kernel_rfl) (by kernel_rfl) ?_
      refine ls_d (d := some 22) (by kernel_rfl) (by rw [hb_4]; kernel_rfl) HA_3 (d_call (by kernel_rfl) (by kernel_rfl) H) (fun x22 h_12 w_12 H HA_12 => ?_)
      refine ls_p (d := some 23) (by kernel_rfl) (by rw [hb_4]; kernel_rfl) (p_sNe (by kernel_rfl) (by kernel_rfl) H) (fun x23 H => ?_)
      refine ls_pick_f (y := x23) (by kernel_rfl) (by rw [hb_4]; kernel_rfl) (by kernel_rfl) ?_
      refine ls_nil ?_
      refine then_normal ?_
      exact ⟨(fun i => ([x12, x0, x1, x22, x23]).getD i undef), x23, h_12, by kernel_rfl, HA_12, H⟩
    · refine ls_skip (d := some 19) (by kernel_rfl) (by rw [hb_4]; kernel_rfl) ?_
      refine ls_skip (d := some 20) (by kernel_rfl) (by rw [hb_4]; kernel_rfl) ?_
      refine ls_skip (d := some 21) (by kernel_rfl) (by rw [hb_4]; kernel_rfl) ?_
      refine ls_skip (d := some 22) (by kernel_rfl) (by rw [hb_4]; kernel_rfl) ?_
      refine ls_skip (d := some 23) (by kernel_rfl) (by rw [hb_4]; kernel_rfl) ?_
      refine ls_pick_t (x := (.bool true)) (by kernel_rfl) (by rw [hb_4]; kernel_rfl) (by kernel_rfl) ?_
      refine ls_nil ?_
      refine then_normal ?_
      exact ⟨(fun i => ([undef, undef, undef, undef, undef]).getD i undef), (.bool true), h_3, by kernel_rfl, HA_3, H⟩
    · rintro _ w_4 ⟨D, x24, h_4, rfl, HA_4, H⟩
      refine ls_move (x := x24) (by kernel_rfl) (by kernel_rfl) ?_
      refine ls_orh [(), (), (), (), (), (), (), (), (), (), ()] (fun K a w => ∃ (D_1 : Nat → Value) (x36 : Value) (h_5 : Heap), a = ⟨#[x0, x1, undef, undef, (.bool false), x12, x0, x7, x8, undef, x0, x1, x12, x0, x14, x0, x16, x17, x17, (D 0), (D 1), (D 2), (D 3), (D 4), x24, x24, (D_1 0), (D_1 1), (D_1 2), (D_1 3), (D_1 4), (D_1 5), (D_1 6), (D_1 7), (D_1 8), (D_1 9), x36, undef, undef, undef, undef, undef, undef, undef, undef, undef, undef, undef, undef, undef, undef, undef, undef], []⟩ ∧ At w0 w h_5 ∧ K x36 h_5) H (fun hb_2 H => ?_) (fun hb_2 H => ?_) ?_
      · refine ls_move (x := x12) (by rw [hb_2]; kernel_rfl) (by kernel_rfl) ?_
        refine ls_p (d := some 27) (by kernel_rfl) (by rw [hb_2]; kernel_rfl) (p_sGt (by kernel_rfl) (by kernel_rfl) H) (fun x27 H => ?_)
        refine ls_move (x := x27) (by rw [hb_2]; kernel_rfl) (by kernel_rfl) ?_
        refine ls_andh [(), (), (), (), (), (), ()] (fun K a w => ∃ (D_4 : Nat → Value) (x35 : Value) (h_10 : Heap), a = ⟨#[x0, x1, undef, undef, (.bool false), x12, x0, x7, x8, undef, x0, x1, x12, x0, x14, x0, x16, x17, x17, (D 0), (D 1), (D 2), (D 3), (D 4), x24, x24, x12, x27, x27, (D_4 0), (D_4 1), (D_4 2), (D_4 3), (D_4 4), (D_4 5), x35, undef, undef, undef, undef, undef, undef, undef, undef, undef, undef, undef, undef, undef, undef, undef, undef, undef], []⟩ ∧ At w0 w h_10 ∧ K x35 h_10) H (fun hb_3 H => ?_) (fun hb_3 H => ?_) ?_
        · refine ls_move (x := x0) (by rw [hb_3]; kernel_rfl) (by kernel_rfl) ?_
          refine ls_move (x := x12) (by rw [hb_3]; kernel_rfl) (by kernel_rfl) ?_
          refine ls_fr (b := ⟨#[x0, x1, undef, undef, (.bool false), x12, x0, x7, x8, undef, x0, x1, x12, x0, x14, x0, x16, x17, x17, (D 0), (D 1), (D 2), (D 3), (D 4), x24, x24, x12, x27, x27, x0, x12, undef, undef, undef, undef, undef, undef, undef, undef, undef, undef, undef, undef, undef, undef, undef, undef, undef, undef, undef, undef, undef, undef], []⟩) (by kernel_rfl) ?_
          refine ls_p (d := some 31) (by kernel_rfl) (by rw [hb_3]; kernel_rfl) (p_sl Tryd.underlying26 Tryd.sizeOf21 (by kernel_rfl) (by kernel_rfl) (by kernel_rfl) H) (fun x31 H => ?_)
          refine ls_d (d := some 32) (by kernel_rfl) (by rw [hb_3]; kernel_rfl) HA_4 (d_call (by kernel_rfl) (by kernel_rfl) H) (fun x32 h_11 w_11 H HA_11 => ?_)
          refine ls_move (x := x1) (by rw [hb_3]; kernel_rfl) (by kernel_rfl) ?_
          refine ls_p (d := some 34) (by kernel_rfl) (by rw [hb_3]; kernel_rfl) (p_sGt (by kernel_rfl) (by kernel_rfl) H) (fun x34 H => ?_)
          refine ls_pick_t (x := x34) (by rw [hb_2]; kernel_rfl) (by rw [hb_3]; kernel_rfl) (by kernel_rfl) ?_
          refine ls_nil ?_
          refine then_normal ?_
          exact ⟨(fun i => ([x0, x12, x31, x32, x1, x34]).getD i undef), x34, h_11, by kernel_rfl, HA_11, H⟩
        · refine ls_skip (d := some 29) (by kernel_rfl) (by rw [hb_3]; kernel_rfl) ?_
          refine ls_skip (d := some 30) (by kernel_rfl) (by rw [hb_3]; kernel_rfl) ?_
          refine ls_fr (b := ⟨#[x0, x1, undef, undef, (.bool false), x12, x0, x7, x8, undef, x0, x1, x12, x0, x14, x0, x16, x17, x17, (D 0), (D 1), (D 2), (D 3), (D 4), x24, x24, x12, x27, x27, undef, undef, undef, undef, undef, undef, undef, undef, undef, undef, undef, undef, undef, undef, undef, undef, undef, undef, undef, undef, undef, undef, undef, undef], []⟩) (by kernel_rfl) ?_
          refine ls_skip (d := some 31) (by kernel_rfl) (by rw [hb_3]; kernel_rfl) ?_
          refine ls_skip (d := some 32) (by kernel_rfl) (by rw [hb_3]; kernel_rfl) ?_
          refine ls_skip (d := some 33) (by kernel_rfl) (by rw [hb_3]; kernel_rfl) ?_
          refine ls_skip (d := some 34) (by kernel_rfl) (by rw [hb_3]; kernel_rfl) ?_
          refine ls_pick_f (y := (.bool false)) (by rw [hb_2]; kernel_rfl) (by rw [hb_3]; kernel_rfl) (by kernel_rfl) ?_
          refine ls_nil ?_
          refine then_normal ?_
          exact ⟨(fun i => ([undef, undef, undef, undef, undef, undef]).getD i undef), (.bool false), h_4, by kernel_rfl, HA_4, H⟩
        · rintro _ w_10 ⟨D_4, x35, h_10, rfl, HA_10, H⟩
          refine ls_pick_f (y := x35) (by kernel_rfl) (by rw [hb_2]; kernel_rfl) (by kernel_rfl) ?_
          refine ls_nil ?_
          refine then_normal ?_
          exact ⟨(fun i => ([x12, x27, x27, (D_4 0), (D_4 1), (D_4 2), (D_4 3), (D_4 4), (D_4 5), x35]).getD i undef), x35, h_10, by kernel_rfl, HA_10, H⟩
      · refine ls_skip (d := some 26) (by kernel_rfl) (by rw [hb_2]; kernel_rfl) ?_
        refine ls_skip (d := some 27) (by kernel_rfl) (by rw [hb_2]; kernel_rfl) ?_
        refine ls_skip (d := some 28) (by kernel_rfl) (by rw [hb_2]; kernel_rfl) ?_
        refine ls_skip (d := some 29) (by kernel_rfl) (by kernel_rfl) ?_
        refine ls_skip (d := some 30) (by kernel_rfl) (by kernel_rfl) ?_
        refine ls_fr (b := ⟨#[x0, x1, undef, undef, (.bool false), x12, x0, x7, x8, undef, x0, x1, x12, x0, x14, x0, x16, x17, x17, (D 0), (D 1), (D 2), (D 3), (D 4), x24, x24, undef, undef, undef, undef, undef, undef, undef, undef, undef, undef, undef, undef, undef, undef, undef, undef, undef, undef, undef, undef, undef, undef, undef, undef, undef, undef, undef], []⟩) (by kernel_rfl) ?_
        refine ls_skip (d := some 31) (by kernel_rfl) (by kernel_rfl) ?_
        refine ls_skip (d := some 32) (by kernel_rfl) (by kernel_rfl) ?_
        refine ls_skip (d := some 33) (by kernel_rfl) (by kernel_rfl) ?_
        refine ls_skip (d := some 34) (by kernel_rfl) (by kernel_rfl) ?_
        refine ls_skip (d := some 35) (by kernel_rfl) (by rw [hb_2]; kernel_rfl) ?_
        refine ls_pick_t (x := (.bool true)) (by kernel_rfl) (by rw [hb_2]; kernel_rfl) (by kernel_rfl) ?_
        refine ls_nil ?_
        refine then_normal ?_
        exact ⟨(fun i => ([undef, undef, undef, undef, undef, undef, undef, undef, undef, undef]).getD i undef), (.bool true), h_4, by kernel_rfl, HA_4, H⟩
      · rintro _ w_5 ⟨D_1, x36, h_5, rfl, HA_5, H⟩
        refine ls_nil ?_
        refine then_normal ?_
        refine fr_eq (b := ⟨#[x0, x1, undef, undef, (.bool false), x12, x0, x7, x8, undef, x0, x1, x12, x0, x14, x0, x16, x17, x17, (D 0), (D 1), (D 2), (D 3), (D 4), x24, x24, (D_1 0), (D_1 1), (D_1 2), (D_1 3), (D_1 4), (D_1 5), (D_1 6), (D_1 7), (D_1 8), (D_1 9), x36, undef, undef, undef, undef, undef, undef, undef, undef, undef, undef, undef, undef, undef, undef, undef, undef], []⟩) (by kernel_rfl) ?_
        refine wp_if rfl H (fun H => ?_) (fun H => ?_)
        · refine wp_seq ?_
          refine lwp_list ?_
          refine ls_assign (x := (.bool false)) (by kernel_rfl) (by kernel_rfl) ?_
          refine ls_nil ?_
          refine then_normal ?_
          refine fr_eq (b := ⟨#[x0, x1, undef, undef, (.bool false), x12, x0, x7, x8, undef, x0, x1, x12, x0, x14, x0, x16, x17, x17, (D 0), (D 1), (D 2), (D 3), (D 4), x24, x24, (D_1 0), (D_1 1), (D_1 2), (D_1 3), (D_1 4), (D_1 5), (D_1 6), (D_1 7), (D_1 8), (D_1 9), x36, undef, undef, undef, undef, undef, undef, undef, undef, undef, undef, undef, undef, undef, undef, undef, undef], []⟩) (by kernel_rfl) ?_
          refine wp_ret ?_
          refine then_ret ?_
          exact end1 (Tryd.results4) (by kernel_rfl) (by kernel_rfl) HA_5 H _ (.inr rfl)
        · refine wp_skip ?_
          refine then_normal ?_
          refine fr_eq (b := ⟨#[x0, x1, undef, undef, (.bool false), x12, x0, x7, x8, undef, x0, x1, x12, x0, x14, x0, x16, x17, x17, (D 0), (D 1), (D 2), (D 3), (D 4), x24, x24, (D_1 0), (D_1 1), (D_1 2), (D_1 3), (D_1 4), (D_1 5), (D_1 6), (D_1 7), (D_1 8), (D_1 9), x36, undef, undef, undef, undef, undef, undef, undef, undef, undef, undef, undef, undef, undef, undef, undef, undef], []⟩) (by kernel_rfl) ?_
          refine wp_seq ?_
          refine lwp_list ?_
          refine ls_move (x := x12) (by kernel_rfl) (by kernel_rfl) ?_
          refine ls_move (x := x0) (by kernel_rfl) (by kernel_rfl) ?_
          refine ls_p (d := some 39) (by kernel_rfl) (by kernel_rfl) (p_len Tryd.underlying26 (by kernel_rfl) H) (fun x39 H => ?_)
          refine ls_p (d := some 40) (by kernel_rfl) (by kernel_rfl) (p_sEq (by kernel_rfl) (by kernel_rfl) H) (fun x40 H => ?_)
          refine ls_move (x := x40) (by kernel_rfl) (by kernel_rfl) ?_
          refine ls_orh [(), (), (), (), (), (), (), ()] (fun K a w => ∃ (D_2 : Nat → Value) (x49 : Value) (h_6 : Heap), a = ⟨#[x0, x1, undef, undef, (.bool false), x12, x0, x7, x8, undef, x0, x1, x12, x0, x14, x0, x16, x17, x17, (D 0), (D 1), (D 2), (D 3), (D 4), x24, x24, (D_1 0), (D_1 1), (D_1 2), (D_1 3), (D_1 4), (D_1 5), (D_1 6), (D_1 7), (D_1 8), (D_1 9), x36, x12, x0, x39, x40, x40, (D_2 0), (D_2 1), (D_2 2), (D_2 3), (D_2 4), (D_2 5), (D_2 6), x49, undef, undef, undef], []⟩ ∧ At w0 w h_6 ∧ K x49 h_6) H (fun hb_1 H => ?_) (fun hb_1 H => ?_) ?_
          · refine ls_move (x := x0) (by rw [hb_1]; kernel_rfl) (by kernel_rfl) ?_
            refine ls_fr (b := ⟨#[x0, x1, undef, undef, (.bool false), x12, x0, x7, x8, undef, x0, x1, x12, x0, x14, x0, x16, x17, x17, (D 0), (D 1), (D 2), (D 3), (D 4), x24, x24, (D_1 0), (D_1 1), (D_1 2), (D_1 3), (D_1 4), (D_1 5), (D_1 6), (D_1 7), (D_1 8), (D_1 9), x36, x12, x0, x39, x40, x40, x0, undef, undef, undef, undef, undef, undef, undef, undef, undef, undef], []⟩) (by kernel_rfl) ?_
            refine ls_move (x := x12) (by rw [hb_1]; kernel_rfl) (by kernel_rfl) ?_
            refine ls_p (d := some 44) (by kernel_rfl) (by rw [hb_1]; kernel_rfl) (p_add (by kernel_rfl) (by kernel_rfl) H) (fun x44 H => ?_)
            refine ls_p (d := some 45) (by kernel_rfl) (by rw [hb_1]; kernel_rfl) (p_sl Tryd.underlying26 Tryd.sizeOf21 (by kernel_rfl) (by kernel_rfl) (by kernel_rfl) H) (fun x45 H => ?_)
            refine ls_d (d := some 46) (by kernel_rfl) (by rw [hb_1]; kernel_rfl) HA_5 (d_call (by kernel_rfl) (by kernel_rfl) H) (fun x46 h_9 w_9 H HA_9 => ?_)
            refine ls_move (x := x1) (by rw [hb_1]; kernel_rfl) (by kernel_rfl) ?_
            refine ls_p (d := some 48) (by kernel_rfl) (by rw [hb_1]; kernel_rfl) (p_sGt (by kernel_rfl) (by kernel_rfl) H) (fun x48 H => ?_)
            refine ls_fr (b := ⟨#[x0, x1, undef, undef, (.bool false), x12, x0, x7, x8, undef, x0, x1, x12, x0, x14, x0, x16, x17, x17, (D 0), (D 1), (D 2), (D 3), (D 4), x24, x24, (D_1 0), (D_1 1), (D_1 2), (D_1 3), (D_1 4), (D_1 5), (D_1 6), (D_1 7), (D_1 8), (D_1 9), x36, x12, x0, x39, x40, x40, x0, x12, x44, x45, x46, x1, x48, undef, undef, undef, undef], []⟩) (by kernel_rfl) ?_
            refine ls_pick_f (y := x48) (by kernel_rfl) (by rw [hb_1]; kernel_rfl) (by kernel_rfl) ?_
            refine ls_nil ?_
            refine then_normal ?_
            exact ⟨(fun i => ([x0, x12, x44, x45, x46, x1, x48]).getD i undef), x48, h_9, by kernel_rfl, HA_9, H⟩
          · refine ls_skip (d := some 42) (by kernel_rfl) (by rw [hb_1]; kernel_rfl) ?_
            refine ls_fr (b := ⟨#[x0, x1, undef, undef, (.bool false), x12, x0, x7, x8, undef, x0, x1, x12, x0, x14, x0, x16, x17, x17, (D 0), (D 1), (D 2), (D 3), (D 4), x24, x24, (D_1 0), (D_1 1), (D_1 2), (D_1 3), (D_1 4), (D_1 5), (D_1 6), (D_1 7), (D_1 8), (D_1 9), x36, x12, x0, x39, x40, x40, undef, undef, undef, undef, undef, undef, undef, undef, undef, undef, undef], []⟩) (by kernel_rfl) ?_
            refine ls_skip (d := some 43) (by kernel_rfl) (by rw [hb_1]; kernel_rfl) ?_
            refine ls_skip (d := some 44) (by kernel_rfl) (by rw [hb_1]; kernel_rfl) ?_
            refine ls_skip (d := some 45) (by kernel_rfl) (by rw [hb_1]; kernel_rfl) ?_
            refine ls_skip (d := some 46) (by kernel_rfl) (by rw [hb_1]; kernel_rfl) ?_
            refine ls_skip (d := some 47) (by kernel_rfl) (by rw [hb_1]; kernel_rfl) ?_
            refine ls_skip (d := some 48) (by kernel_rfl) (by rw [hb_1]; kernel_rfl) ?_
            refine ls_fr (b := ⟨#[x0, x1, undef, undef, (.bool false), x12, x0, x7, x8, undef, x0, x1, x12, x0, x14, x0, x16, x17, x17, (D 0), (D 1), (D 2), (D 3), (D 4), x24, x24, (D_1 0), (D_1 1), (D_1 2), (D_1 3), (D_1 4), (D_1 5), (D_1 6), (D_1 7), (D_1 8), (D_1 9), x36, x12, x0, x39, x40, x40, undef, undef, undef, undef, undef, undef, undef, undef, undef, undef, undef], []⟩) (by kernel_rfl) ?_
            refine ls_pick_t (x := (.bool true)) (by kernel_rfl) (by rw [hb_1]; kernel_rfl) (by kernel_rfl) ?_
            refine ls_nil ?_
            refine then_normal ?_
            exact ⟨(fun i => ([undef, undef, undef, undef, undef, undef, undef]).getD i undef), (.bool true), h_5, by kernel_rfl, HA_5, H⟩
          · rintro _ w_6 ⟨D_2, x49, h_6, rfl, HA_6, H⟩
            refine ls_move (x := x49) (by kernel_rfl) (by kernel_rfl) ?_
            refine ls_andh [(), ()] (fun K a w => ∃ (D_3 : Nat → Value) (x52 : Value) (h_7 : Heap), a = ⟨#[x0, x1, undef, undef, (.bool false), x12, x0, x7, x8, undef, x0, x1, x12, x0, x14, x0, x16, x17, x17, (D 0), (D 1), (D 2), (D 3), (D 4), x24, x24, (D_1 0), (D_1 1), (D_1 2), (D_1 3), (D_1 4), (D_1 5), (D_1 6), (D_1 7), (D_1 8), (D_1 9), x36, x12, x0, x39, x40, x40, (D_2 0), (D_2 1), (D_2 2), (D_2 3), (D_2 4), (D_2 5), (D_2 6), x49, x49, (D_3 0), x52], []⟩ ∧ At w0 w h_7 ∧ K x52 h_7) H (fun hb H => ?_) (fun hb H => ?_) ?_
            · refine ls_d (d := some 51) (by kernel_rfl) (by rw [hb]; kernel_rfl) HA_6 (d_call (by kernel_rfl) (by kernel_rfl) H) (fun x51 h_8 w_8 H HA_8 => ?_)
              refine ls_pick_t (x := x51) (by kernel_rfl) (by rw [hb]; kernel_rfl) (by kernel_rfl) ?_
              refine ls_nil ?_
              refine then_normal ?_
              exact ⟨(fun i => ([x51]).getD i undef), x51, h_8, by kernel_rfl, HA_8, H⟩
            · refine ls_skip (d := some 51) (by kernel_rfl) (by rw [hb]; kernel_rfl) ?_
              refine ls_pick_f (y := (.bool false)) (by kernel_rfl) (by rw [hb]; kernel_rfl) (by kernel_rfl) ?_
              refine ls_nil ?_
              refine then_normal ?_
              exact ⟨(fun i => ([undef]).getD i undef), (.bool false), h_6, by kernel_rfl, HA_6, H⟩
            · rintro _ w_7 ⟨D_3, x52, h_7, rfl, HA_7, H⟩
              refine ls_assign (x := x52) (by kernel_rfl) (by kernel_rfl) ?_
              refine ls_nil ?_
              refine then_normal ?_
              refine fr_eq (b := ⟨#[x0, x1, undef, undef, x52, x12, x0, x7, x8, undef, x0, x1, x12, x0, x14, x0, x16, x17, x17, (D 0), (D 1), (D 2), (D 3), (D 4), x24, x24, (D_1 0), (D_1 1), (D_1 2), (D_1 3), (D_1 4), (D_1 5), (D_1 6), (D_1 7), (D_1 8), (D_1 9), x36, x12, x0, x39, x40, x40, (D_2 0), (D_2 1), (D_2 2), (D_2 3), (D_2 4), (D_2 5), (D_2 6), x49, x49, (D_3 0), x52], []⟩) (by kernel_rfl) ?_
              refine wp_ret ?_
              exact end1 (Tryd.results4) (by kernel_rfl) (by kernel_rfl) HA_7 H _ (.inr rfl)

end Go.Proofs.YtbgipcikkedloaaDoor
