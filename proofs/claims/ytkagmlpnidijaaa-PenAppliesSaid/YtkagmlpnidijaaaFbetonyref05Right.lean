/- The shallow reading of one function, and that the function does it. Written by a program. -/
import Derived.Test.YtkagmlpnidijaaaFnC
set_option linter.unusedVariables false
namespace Go.Proofs.Ytkagmlpnidijaaa
open Go Go.HW

def betonyref05_Right_S (x0 : Value) (h : Heap) (R : Value → Heap → Prop) : Prop :=
  sBox h x0 23 fun x1 h => 
  sOff x1 0 fun x3 =>
  sLd h x3 fun x4 =>
  betonyref05_right_c x4 h fun x5 h_1 => 
  sAndH x5 h_1 (fun k_2 =>
  sOff x1 1 fun x7 =>
  sLd h_1 x7 fun x8 =>
  betonyref05_right_c x8 h_1 fun x9 h_3 => 
  k_2 x9 h_3) fun x10 h_2 =>
  sAnd x10 (fun k_1 =>
  sOff x1 2 fun x12 =>
  sLd h_2 x12 fun x13 =>
  sGe x13 (.int .i64 0) fun x14 =>
  k_1 x14) fun x15 =>
  sAnd x15 (fun k =>
  sOff x1 2 fun x17 =>
  sLd h_2 x17 fun x18 =>
  sLe x18 (.int .i64 255) fun x19 =>
  k x19) fun x20 =>
  R x20 h_2
set_option maxRecDepth 100000 in
theorem betonyref05_Right_runs {x0 : Value} {h : Heap} {R : Value → Heap → Prop} (H : betonyref05_Right_S x0 h R) : betonyref05_Right_c x0 h R := by
  unfold betonyref05_Right_S at H
  refine runs_of (b := ⟨#[x0, undef, undef, undef, undef, undef, undef, undef, undef, undef, undef, undef, undef, undef, undef, undef, undef, undef, undef, undef, undef], []⟩) Try.call40 Try.func40 rfl (by kernel_rfl) (fun w0 HA => ?_)
  refine wp_seq ?_
  refine lwp_list ?_
  refine ls_d (d := some 1) (by kernel_rfl) (by kernel_rfl) HA (d_box (by kernel_rfl) H) (fun x1 h w H HA => ?_)
  refine ls_assign (x := (.bool false)) (by kernel_rfl) (by kernel_rfl) ?_
  refine ls_nil ?_
  refine then_normal ?_
  refine fr_eq (b := ⟨#[x0, x1, (.bool false), undef, undef, undef, undef, undef, undef, undef, undef, undef, undef, undef, undef, undef, undef, undef, undef, undef, undef], []⟩) (by kernel_rfl) ?_
  refine wp_seq ?_
  refine lwp_list ?_
  refine ls_p (d := some 3) (by kernel_rfl) (by kernel_rfl) (p_off Try.underlying23 rfl (fun w => ⟨_, Try.sizeOf3 w⟩) rfl (by kernel_rfl) H) (fun x3 H => ?_)
  refine ls_y (d := some 4) (by kernel_rfl) (by kernel_rfl) HA (y_ld Try.isAgg3 (by kernel_rfl) H) (fun x4 H => ?_)
  refine ls_d (d := some 5) (by kernel_rfl) (by kernel_rfl) HA (d_call (by kernel_rfl) (by kernel_rfl) H) (fun x5 h_1 w_1 H HA_1 => ?_)
  refine ls_move (x := x5) (by kernel_rfl) (by kernel_rfl) ?_
  refine ls_andh [(), (), (), ()] (fun K a w => ∃ (D : Nat → Value) (x10 : Value) (h_2 : Heap), a = ⟨#[x0, x1, (.bool false), x3, x4, x5, x5, (D 0), (D 1), (D 2), x10, undef, undef, undef, undef, undef, undef, undef, undef, undef, undef], []⟩ ∧ At w0 w h_2 ∧ K x10 h_2) H (fun hb_2 H => ?_) (fun hb_2 H => ?_) ?_
  · refine ls_p (d := some 7) (by kernel_rfl) (by rw [hb_2]; kernel_rfl) (p_off Try.underlying23 rfl (fun w => ⟨_, Try.sizeOf3 w⟩) rfl (by kernel_rfl) H) (fun x7 H => ?_)
    refine ls_y (d := some 8) (by kernel_rfl) (by rw [hb_2]; kernel_rfl) HA_1 (y_ld Try.isAgg3 (by kernel_rfl) H) (fun x8 H => ?_)
    refine ls_fr (b := ⟨#[x0, x1, (.bool false), x3, x4, x5, x5, x7, x8, undef, undef, undef, undef, undef, undef, undef, undef, undef, undef, undef, undef], []⟩) (by kernel_rfl) ?_
    refine ls_d (d := some 9) (by kernel_rfl) (by rw [hb_2]; kernel_rfl) HA_1 (d_call (by kernel_rfl) (by kernel_rfl) H) (fun x9 h_3 w_5 H HA_5 => ?_)
    refine ls_pick_t (x := x9) (by kernel_rfl) (by rw [hb_2]; kernel_rfl) (by kernel_rfl) ?_
    refine ls_nil ?_
    refine then_normal ?_
    exact ⟨(fun i => ([x7, x8, x9]).getD i undef), x9, h_3, by kernel_rfl, HA_5, H⟩
  · refine ls_skip (d := some 7) (by kernel_rfl) (by rw [hb_2]; kernel_rfl) ?_
    refine ls_skip (d := some 8) (by kernel_rfl) (by rw [hb_2]; kernel_rfl) ?_
    refine ls_fr (b := ⟨#[x0, x1, (.bool false), x3, x4, x5, x5, undef, undef, undef, undef, undef, undef, undef, undef, undef, undef, undef, undef, undef, undef], []⟩) (by kernel_rfl) ?_
    refine ls_skip (d := some 9) (by kernel_rfl) (by rw [hb_2]; kernel_rfl) ?_
    refine ls_pick_f (y := (.bool false)) (by kernel_rfl) (by rw [hb_2]; kernel_rfl) (by kernel_rfl) ?_
    refine ls_nil ?_
    refine then_normal ?_
    exact ⟨(fun i => ([undef, undef, undef]).getD i undef), (.bool false), h_1, by kernel_rfl, HA_1, H⟩
  · rintro _ w_2 ⟨D, x10, h_2, rfl, HA_2, H⟩
    refine ls_move (x := x10) (by kernel_rfl) (by kernel_rfl) ?_
    refine ls_and [(), (), (), ()] (fun K a w => ∃ (D_1 : Nat → Value) (x15 : Value), a = ⟨#[x0, x1, (.bool false), x3, x4, x5, x5, (D 0), (D 1), (D 2), x10, x10, (D_1 0), (D_1 1), (D_1 2), x15, undef, undef, undef, undef, undef], []⟩ ∧ At w0 w h_2 ∧ K x15) H (fun hb_1 H => ?_) (fun hb_1 H => ?_) ?_
    · refine ls_p (d := some 12) (by kernel_rfl) (by rw [hb_1]; kernel_rfl) (p_off Try.underlying23 rfl (fun w => ⟨_, Try.sizeOf3 w⟩) rfl (by kernel_rfl) H) (fun x12 H => ?_)
      refine ls_y (d := some 13) (by kernel_rfl) (by rw [hb_1]; kernel_rfl) HA_2 (y_ld Try.isAgg3 (by kernel_rfl) H) (fun x13 H => ?_)
      refine ls_p (d := some 14) (by kernel_rfl) (by rw [hb_1]; kernel_rfl) (p_sGe (by kernel_rfl) (by kernel_rfl) H) (fun x14 H => ?_)
      refine ls_pick_t (x := x14) (by kernel_rfl) (by rw [hb_1]; kernel_rfl) (by kernel_rfl) ?_
      refine ls_nil ?_
      refine then_normal ?_
      exact ⟨(fun i => ([x12, x13, x14]).getD i undef), x14, by kernel_rfl, HA_2, H⟩
    · refine ls_skip (d := some 12) (by kernel_rfl) (by rw [hb_1]; kernel_rfl) ?_
      refine ls_skip (d := some 13) (by kernel_rfl) (by rw [hb_1]; kernel_rfl) ?_
      refine ls_skip (d := some 14) (by kernel_rfl) (by rw [hb_1]; kernel_rfl) ?_
      refine ls_pick_f (y := (.bool false)) (by kernel_rfl) (by rw [hb_1]; kernel_rfl) (by kernel_rfl) ?_
      refine ls_nil ?_
      refine then_normal ?_
      exact ⟨(fun i => ([undef, undef, undef]).getD i undef), (.bool false), by kernel_rfl, HA_2, H⟩
    · rintro _ w_3 ⟨D_1, x15, rfl, HA_3, H⟩
      refine ls_move (x := x15) (by kernel_rfl) (by kernel_rfl) ?_
      refine ls_and [(), (), (), ()] (fun K a w => ∃ (D_2 : Nat → Value) (x20 : Value), a = ⟨#[x0, x1, (.bool false), x3, x4, x5, x5, (D 0), (D 1), (D 2), x10, x10, (D_1 0), (D_1 1), (D_1 2), x15, x15, (D_2 0), (D_2 1), (D_2 2), x20], []⟩ ∧ At w0 w h_2 ∧ K x20) H (fun hb H => ?_) (fun hb H => ?_) ?_
      · refine ls_p (d := some 17) (by kernel_rfl) (by rw [hb]; kernel_rfl) (p_off Try.underlying23 rfl (fun w => ⟨_, Try.sizeOf3 w⟩) rfl (by kernel_rfl) H) (fun x17 H => ?_)
        refine ls_y (d := some 18) (by kernel_rfl) (by rw [hb]; kernel_rfl) HA_3 (y_ld Try.isAgg3 (by kernel_rfl) H) (fun x18 H => ?_)
        refine ls_p (d := some 19) (by kernel_rfl) (by rw [hb]; kernel_rfl) (p_sLe (by kernel_rfl) (by kernel_rfl) H) (fun x19 H => ?_)
        refine ls_pick_t (x := x19) (by kernel_rfl) (by rw [hb]; kernel_rfl) (by kernel_rfl) ?_
        refine ls_nil ?_
        refine then_normal ?_
        exact ⟨(fun i => ([x17, x18, x19]).getD i undef), x19, by kernel_rfl, HA_3, H⟩
      · refine ls_skip (d := some 17) (by kernel_rfl) (by rw [hb]; kernel_rfl) ?_
        refine ls_skip (d := some 18) (by kernel_rfl) (by rw [hb]; kernel_rfl) ?_
        refine ls_skip (d := some 19) (by kernel_rfl) (by rw [hb]; kernel_rfl) ?_
        refine ls_pick_f (y := (.bool false)) (by kernel_rfl) (by rw [hb]; kernel_rfl) (by kernel_rfl) ?_
        refine ls_nil ?_
        refine then_normal ?_
        exact ⟨(fun i => ([undef, undef, undef]).getD i undef), (.bool false), by kernel_rfl, HA_3, H⟩
      · rintro _ w_4 ⟨D_2, x20, rfl, HA_4, H⟩
        refine ls_assign (x := x20) (by kernel_rfl) (by kernel_rfl) ?_
        refine ls_nil ?_
        refine then_normal ?_
        refine fr_eq (b := ⟨#[x0, x1, x20, x3, x4, x5, x5, (D 0), (D 1), (D 2), x10, x10, (D_1 0), (D_1 1), (D_1 2), x15, x15, (D_2 0), (D_2 1), (D_2 2), x20], []⟩) (by kernel_rfl) ?_
        refine wp_ret ?_
        exact end1 (Try.results40) (by kernel_rfl) (by kernel_rfl) HA_4 H _ (.inr rfl)

end Go.Proofs.Ytkagmlpnidijaaa
