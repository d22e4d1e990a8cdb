/- The shallow reading of one function, and that the function does it. Written by a program. -/
import Derived.Test.YtpgpbhbpamgboaaDoorFnC
set_option linter.unusedVariables false
namespace Go.Proofs.YtpgpbhbpamgboaaDoor
open Go Go.HW

def betonylaw25_awake_S (h : Heap) (R : Value → Heap → Prop) : Prop :=
  sNew h #[.int .u8 0, .int .u8 0, .int .i64 0] 24 fun x1 h => 
  charset_Sets_Map_c x1 (.int .i32 113) h fun x3 h_1 => 
  sEq x3 (.int .i32 113) fun x5 =>
  sAndH x5 h_1 (fun k_3 =>
  charset_Sets_Put_c x1 (.int .i64 0) (.int .u8 48) h_1 fun x7 h_9 => 
  k_3 x7 h_9) fun x8 h_2 =>
  sAndH x8 h_2 (fun k_2 =>
  charset_Sets_Map_c x1 (.int .i32 113) h_2 fun x10 h_8 => 
  sEq x10 (.int .i32 9472) fun x11 =>
  k_2 x11 h_8) fun x12 h_3 =>
  sAndH x12 h_3 (fun k_1 =>
  charset_Sets_Put_c x1 (.int .i64 2) (.int .u8 48) h_3 fun x14 h_7 => 
  sNot x14 fun x15 =>
  k_1 x15 h_7) fun x16 h_4 =>
  sAndH x16 h_4 (fun k =>
  charset_Sets_Hold_c x1 (.int .i64 (-1)) h_4 fun x18 h_6 => 
  sNot x18 fun x19 =>
  k x19 h_6) fun x20 h_5 =>
  R x20 h_5
set_option maxRecDepth 100000 in
theorem betonylaw25_awake_runs {h : Heap} {R : Value → Heap → Prop} (H : betonylaw25_awake_S  h R) : betonylaw25_awake_c  h R := by
  unfold betonylaw25_awake_S at H
  refine runs_of (b := ⟨#[undef, undef, undef, undef, undef, undef, undef, undef, undef, undef, undef, undef, undef, undef, undef, undef, undef, undef, undef, undef, undef], []⟩) Tryd.call8 Tryd.func8 rfl (by kernel_rfl) (fun w0 HA => ?_)
  refine wp_seq ?_
  refine lwp_list ?_
  refine ls_assign (x := (.bool false)) (by kernel_rfl) (by kernel_rfl) ?_
  refine ls_nil ?_
  refine then_normal ?_
  refine fr_eq (b := ⟨#[(.bool false), undef, undef, undef, undef, undef, undef, undef, undef, undef, undef, undef, undef, undef, undef, undef, undef, undef, undef, undef, undef], []⟩) (by kernel_rfl) ?_
  refine wp_seq ?_
  refine lwp_list ?_
  refine ls_d (d := some 1) (by kernel_rfl) (by kernel_rfl) HA (d_alloc Tryd.zeroValue24 H) (fun x1 h w H HA => ?_)
  refine ls_nil ?_
  refine then_normal ?_
  refine fr_eq (b := ⟨#[(.bool false), x1, undef, undef, undef, undef, undef, undef, undef, undef, undef, undef, undef, undef, undef, undef, undef, undef, undef, undef, undef], []⟩) (by kernel_rfl) ?_
  refine wp_seq ?_
  refine lwp_list ?_
  refine ls_d (d := some 3) (by kernel_rfl) (by kernel_rfl) HA (d_call (by kernel_rfl) (by kernel_rfl) H) (fun x3 h_1 w_1 H HA_1 => ?_)
  refine ls_assign (x := x3) (by kernel_rfl) (by kernel_rfl) ?_
  refine ls_nil ?_
  refine then_normal ?_
  refine fr_eq (b := ⟨#[(.bool false), x1, x3, x3, undef, undef, undef, undef, undef, undef, undef, undef, undef, undef, undef, undef, undef, undef, undef, undef, undef], []⟩) (by kernel_rfl) ?_
  refine wp_seq ?_
  refine lwp_list ?_
  refine ls_move (x := x3) (by kernel_rfl) (by kernel_rfl) ?_
  refine ls_p (d := some 5) (by kernel_rfl) (by kernel_rfl) (p_sEq (by kernel_rfl) (by kernel_rfl) H) (fun x5 H => ?_)
  refine ls_move (x := x5) (by kernel_rfl) (by kernel_rfl) ?_
  refine ls_andh [(), ()] (fun K a w => ∃ (D : Nat → Value) (x8 : Value) (h_2 : Heap), a = ⟨#[(.bool false), x1, x3, x3, x3, x5, x5, (D 0), x8, undef, undef, undef, undef, undef, undef, undef, undef, undef, undef, undef, undef], []⟩ ∧ At w0 w h_2 ∧ K x8 h_2) H (fun hb_3 H => ?_) (fun hb_3 H => ?_) ?_
  · refine ls_d (d := some 7) (by kernel_rfl) (by rw [hb_3]; kernel_rfl) HA_1 (d_call (by kernel_rfl) (by kernel_rfl) H) (fun x7 h_9 w_9 H HA_9 => ?_)
    refine ls_pick_t (x := x7) (by kernel_rfl) (by rw [hb_3]; kernel_rfl) (by kernel_rfl) ?_
    refine ls_nil ?_
    refine then_normal ?_
    exact ⟨(fun i => ([x7]).getD i undef), x7, h_9, by kernel_rfl, HA_9, H⟩
  · refine ls_skip (d := some 7) (by kernel_rfl) (by rw [hb_3]; kernel_rfl) ?_
    refine ls_pick_f (y := (.bool false)) (by kernel_rfl) (by rw [hb_3]; kernel_rfl) (by kernel_rfl) ?_
    refine ls_nil ?_
    refine then_normal ?_
    exact ⟨(fun i => ([undef]).getD i undef), (.bool false), h_1, by kernel_rfl, HA_1, H⟩
  · rintro _ w_2 ⟨D, x8, h_2, rfl, HA_2, H⟩
    refine ls_move (x := x8) (by kernel_rfl) (by kernel_rfl) ?_
    refine ls_andh [(), (), ()] (fun K a w => ∃ (D_1 : Nat → Value) (x12 : Value) (h_3 : Heap), a = ⟨#[(.bool false), x1, x3, x3, x3, x5, x5, (D 0), x8, x8, (D_1 0), (D_1 1), x12, undef, undef, undef, undef, undef, undef, undef, undef], []⟩ ∧ At w0 w h_3 ∧ K x12 h_3) H (fun hb_2 H => ?_) (fun hb_2 H => ?_) ?_
    · refine ls_d (d := some 10) (by kernel_rfl) (by rw [hb_2]; kernel_rfl) HA_2 (d_call (by kernel_rfl) (by kernel_rfl) H) (fun x10 h_8 w_8 H HA_8 => ?_)
      refine ls_p (d := some 11) (by kernel_rfl) (by rw [hb_2]; kernel_rfl) (p_sEq (by kernel_rfl) (by kernel_rfl) H) (fun x11 H => ?_)
      refine ls_pick_t (x := x11) (by kernel_rfl) (by rw [hb_2]; kernel_rfl) (by kernel_rfl) ?_
      refine ls_nil ?_
      refine then_normal ?_
      exact ⟨(fun i => ([x10, x11]).getD i undef), x11, h_8, by kernel_rfl, HA_8, H⟩
    · refine ls_skip (d := some 10) (by kernel_rfl) (by rw [hb_2]; kernel_rfl) ?_
      refine ls_skip (d := some 11) (by kernel_rfl) (by rw [hb_2]; kernel_rfl) ?_
      refine ls_pick_f (y := (.bool false)) (by kernel_rfl) (by rw [hb_2]; kernel_rfl) (by kernel_rfl) ?_
      refine ls_nil ?_
      refine then_normal ?_
      exact ⟨(fun i => ([undef, undef]).getD i undef), (.bool false), h_2, by kernel_rfl, HA_2, H⟩
    · rintro _ w_3 ⟨D_1, x12, h_3, rfl, HA_3, H⟩
      refine ls_move (x := x12) (by kernel_rfl) (by kernel_rfl) ?_
      refine ls_andh [(), (), ()] (fun K a w => ∃ (D_2 : Nat → Value) (x16 : Value) (h_4 : Heap), a = ⟨#[(.bool false), x1, x3, x3, x3, x5, x5, (D 0), x8, x8, (D_1 0), (D_1 1), x12, x12, (D_2 0), (D_2 1), x16, undef, undef, undef, undef], []⟩ ∧ At w0 w h_4 ∧ K x16 h_4) H (fun hb_1 H => ?_) (fun hb_1 H => ?_) ?_
      · refine ls_d (d := some 14) (by kernel_rfl) (by rw [hb_1]; kernel_rfl) HA_3 (d_call (by kernel_rfl) (by kernel_rfl) H) (fun x14 h_7 w_7 H HA_7 => ?_)
        refine ls_p (d := some 15) (by kernel_rfl) (by rw [hb_1]; kernel_rfl) (p_not (by kernel_rfl) H) (fun x15 H => ?_)
        refine ls_pick_t (x := x15) (by kernel_rfl) (by rw [hb_1]; kernel_rfl) (by kernel_rfl) ?_
        refine ls_nil ?_
        refine then_normal ?_
        exact ⟨(fun i => ([x14, x15]).getD i undef), x15, h_7, by kernel_rfl, HA_7, H⟩
      · refine ls_skip (d := some 14) (by kernel_rfl) (by rw [hb_1]; kernel_rfl) ?_
        refine ls_skip (d := some 15) (by kernel_rfl) (by rw [hb_1]; kernel_rfl) ?_
        refine ls_pick_f (y := (.bool false)) (by kernel_rfl) (by rw [hb_1]; kernel_rfl) (by kernel_rfl) ?_
        refine ls_nil ?_
        refine then_normal ?_
        exact ⟨(fun i => ([undef, undef]).getD i undef), (.bool false), h_3, by kernel_rfl, HA_3, H⟩
      · rintro _ w_4 ⟨D_2, x16, h_4, rfl, HA_4, H⟩
        refine ls_move (x := x16) (by kernel_rfl) (by kernel_rfl) ?_
        refine ls_andh [(), (), ()] (fun K a w => ∃ (D_3 : Nat → Value) (x20 : Value) (h_5 : Heap), a = ⟨#[(.bool false), x1, x3, x3, x3, x5, x5, (D 0), x8, x8, (D_1 0), (D_1 1), x12, x12, (D_2 0), (D_2 1), x16, x16, (D_3 0), (D_3 1), x20], []⟩ ∧ At w0 w h_5 ∧ K x20 h_5) H (fun hb H => ?_) (fun hb H => ?_) ?_
        · refine ls_d (d := some 18) (by kernel_rfl) (by rw [hb]; kernel_rfl) HA_4 (d_call (by kernel_rfl) (by kernel_rfl) H) (fun x18 h_6 w_6 H HA_6 => ?_)
          refine ls_p (d := some 19) (by kernel_rfl) (by rw [hb]; kernel_rfl) (p_not (by kernel_rfl) H) (fun x19 H => ?_)
          refine ls_pick_t (x := x19) (by kernel_rfl) (by rw [hb]; kernel_rfl) (by kernel_rfl) ?_
          refine ls_nil ?_
          refine then_normal ?_
          exact ⟨(fun i => ([x18, x19]).getD i undef), x19, h_6, by kernel_rfl, HA_6, H⟩
        · refine ls_skip (d := some 18) (by kernel_rfl) (by rw [hb]; kernel_rfl) ?_
          refine ls_skip (d := some 19) (by kernel_rfl) (by rw [hb]; kernel_rfl) ?_
          refine ls_pick_f (y := (.bool false)) (by kernel_rfl) (by rw [hb]; kernel_rfl) (by kernel_rfl) ?_
          refine ls_nil ?_
          refine then_normal ?_
          exact ⟨(fun i => ([undef, undef]).getD i undef), (.bool false), h_4, by kernel_rfl, HA_4, H⟩
        · rintro _ w_5 ⟨D_3, x20, h_5, rfl, HA_5, H⟩
          refine ls_assign (x := x20) (by kernel_rfl) (by kernel_rfl) ?_
          refine ls_nil ?_
          refine then_normal ?_
          refine fr_eq (b := ⟨#[x20, x1, x3, x3, x3, x5, x5, (D 0), x8, x8, (D_1 0), (D_1 1), x12, x12, (D_2 0), (D_2 1), x16, x16, (D_3 0), (D_3 1), x20], []⟩) (by kernel_rfl) ?_
          refine wp_ret ?_
          exact end1 (Tryd.results8) (by kernel_rfl) (by kernel_rfl) HA_5 H _ (.inr rfl)

end Go.Proofs.YtpgpbhbpamgboaaDoor
