/- The shallow reading of one function, and that the function does it. Written by a program. -/
import Derived.Test.YtkagmlpnidijaaaFnC
set_option linter.unusedVariables false
namespace Go.Proofs.Ytkagmlpnidijaaa
open Go Go.HW

def pen_Right_S (x0 : Value) (h : Heap) (R : Value → Heap → Prop) : Prop :=
  sBox h x0 23 fun x1 h => 
  sOff x1 0 fun x3 =>
  sLd h x3 fun x4 =>
  pen_kind_c x4 h fun x5 h_1 => 
  sNe x5 (.int .i64 3) fun x6 =>
  sAndH x6 h_1 (fun k_2 =>
  sOff x1 1 fun x8 =>
  sLd h_1 x8 fun x9 =>
  pen_kind_c x9 h_1 fun x10 h_3 => 
  sNe x10 (.int .i64 3) fun x11 =>
  k_2 x11 h_3) fun x12 h_2 =>
  sAnd x12 (fun k_1 =>
  sOff x1 2 fun x14 =>
  sLd h_2 x14 fun x15 =>
  sGe x15 (.int .i64 0) fun x16 =>
  k_1 x16) fun x17 =>
  sAnd x17 (fun k =>
  sOff x1 2 fun x19 =>
  sLd h_2 x19 fun x20 =>
  sLt x20 (.int .i64 256) fun x21 =>
  k x21) fun x22 =>
  R x22 h_2
set_option maxRecDepth 100000 in
theorem pen_Right_runs {x0 : Value} {h : Heap} {R : Value → Heap → Prop} (H : pen_Right_S x0 h R) : pen_Right_c x0 h R := by
  unfold pen_Right_S at H
  refine runs_of (b := ⟨#[x0, undef, undef, undef, undef, undef, undef, undef, undef, undef, undef, undef, undef, undef, undef, undef, undef, undef, undef, undef, undef, undef, undef], []⟩) Try.call15 Try.func15 rfl (by kernel_rfl) (fun w0 HA => ?_)
  refine wp_seq ?_
  refine lwp_list ?_
  refine ls_d (d := some 1) (by kernel_rfl) (by kernel_rfl) HA (d_box (by kernel_rfl) H) (fun x1 h w H HA => ?_)
  refine ls_assign (x := (.bool false)) (by kernel_rfl) (by kernel_rfl) ?_
  refine ls_nil ?_
  refine then_normal ?_
  refine fr_eq (b := ⟨#[x0, x1, (.bool false), undef, undef, undef, undef, undef, undef, undef, undef, undef, undef, undef, undef, undef, undef, undef, undef, undef, undef, undef, undef], []⟩) (by kernel_rfl) ?_
  refine wp_seq ?_
  refine lwp_list ?_
  refine ls_p (d := some 3) (by kernel_rfl) (by kernel_rfl) (p_off Try.underlying23 rfl (fun w => ⟨_, Try.sizeOf3 w⟩) rfl (by kernel_rfl) H) (fun x3 H => ?_)
  refine ls_y (d := some 4) (by kernel_rfl) (by kernel_rfl) HA (y_ld Try.isAgg3 (by kernel_rfl) H) (fun x4 H => ?_)
  refine ls_d (d := some 5) (by kernel_rfl) (by kernel_rfl) HA (d_call (by kernel_rfl) (by kernel_rfl) H) (fun x5 h_1 w_1 H HA_1 => ?_)
  refine ls_p (d := some 6) (by kernel_rfl) (by kernel_rfl) (p_sNe (by kernel_rfl) (by kernel_rfl) H) (fun x6 H => ?_)
  refine ls_move (x := x6) (by kernel_rfl) (by kernel_rfl) ?_
  refine ls_andh [(), (), (), (), ()] (fun K a w => ∃ (D : Nat → Value) (x12 : Value) (h_2 : Heap), a = ⟨#[x0, x1, (.bool false), x3, x4, x5, x6, x6, (D 0), (D 1), (D 2), (D 3), x12, undef, undef, undef, undef, undef, undef, undef, undef, undef, undef], []⟩ ∧ At w0 w h_2 ∧ K x12 h_2) H (fun hb_2 H => ?_) (fun hb_2 H => ?_) ?_
  · refine ls_p (d := some 8) (by kernel_rfl) (by rw [hb_2]; kernel_rfl) (p_off Try.underlying23 rfl (fun w => ⟨_, Try.sizeOf3 w⟩) rfl (by kernel_rfl) H) (fun x8 H => ?_)
    refine ls_fr (b := ⟨#[x0, x1, (.bool false), x3, x4, x5, x6, x6, x8, undef, undef, undef, undef, undef, undef, undef, undef, undef, undef, undef, undef, undef, undef], []⟩) (by kernel_rfl) ?_
    refine ls_y (d := some 9) (by kernel_rfl) (by rw [hb_2]; kernel_rfl) HA_1 (y_ld Try.isAgg3 (by kernel_rfl) H) (fun x9 H => ?_)
    refine ls_d (d := some 10) (by kernel_rfl) (by rw [hb_2]; kernel_rfl) HA_1 (d_call (by kernel_rfl) (by kernel_rfl) H) (fun x10 h_3 w_5 H HA_5 => ?_)
    refine ls_p (d := some 11) (by kernel_rfl) (by rw [hb_2]; kernel_rfl) (p_sNe (by kernel_rfl) (by kernel_rfl) H) (fun x11 H => ?_)
    refine ls_pick_t (x := x11) (by kernel_rfl) (by rw [hb_2]; kernel_rfl) (by kernel_rfl) ?_
    refine ls_nil ?_
    refine then_normal ?_
    exact ⟨(fun i => ([x8, x9, x10, x11]).getD i undef), x11, h_3, by kernel_rfl, HA_5, H⟩
  · refine ls_skip (d := some 8) (by kernel_rfl) (by rw [hb_2]; kernel_rfl) ?_
    refine ls_fr (b := ⟨#[x0, x1, (.bool false), x3, x4, x5, x6, x6, undef, undef, undef, undef, undef, undef, undef, undef, undef, undef, undef, undef, undef, undef, undef], []⟩) (by kernel_rfl) ?_
    refine ls_skip (d := some 9) (by kernel_rfl) (by rw [hb_2]; kernel_rfl) ?_
    refine ls_skip (d := some 10) (by kernel_rfl) (by rw [hb_2]; kernel_rfl) ?_
    refine ls_skip (d := some 11) (by kernel_rfl) (by rw [hb_2]; kernel_rfl) ?_
    refine ls_pick_f (y := (.bool false)) (by kernel_rfl) (by rw [hb_2]; kernel_rfl) (by kernel_rfl) ?_
    refine ls_nil ?_
    refine then_normal ?_
    exact ⟨(fun i => ([undef, undef, undef, undef]).getD i undef), (.bool false), h_1, by kernel_rfl, HA_1, H⟩
  · rintro _ w_2 ⟨D, x12, h_2, rfl, HA_2, H⟩
    refine ls_move (x := x12) (by kernel_rfl) (by kernel_rfl) ?_
    refine ls_and [(), (), (), ()] (fun K a w => ∃ (D_1 : Nat → Value) (x17 : Value), a = ⟨#[x0, x1, (.bool false), x3, x4, x5, x6, x6, (D 0), (D 1), (D 2), (D 3), x12, x12, (D_1 0), (D_1 1), (D_1 2), x17, undef, undef, undef, undef, undef], []⟩ ∧ At w0 w h_2 ∧ K x17) H (fun hb_1 H => ?_) (fun hb_1 H => ?_) ?_
    · refine ls_p (d := some 14) (by kernel_rfl) (by rw [hb_1]; kernel_rfl) (p_off Try.underlying23 rfl (fun w => ⟨_, Try.sizeOf3 w⟩) rfl (by kernel_rfl) H) (fun x14 H => ?_)
      refine ls_y (d := some 15) (by kernel_rfl) (by rw [hb_1]; kernel_rfl) HA_2 (y_ld Try.isAgg3 (by kernel_rfl) H) (fun x15 H => ?_)
      refine ls_p (d := some 16) (by kernel_rfl) (by rw [hb_1]; kernel_rfl) (p_sGe (by kernel_rfl) (by kernel_rfl) H) (fun x16 H => ?_)
      refine ls_pick_t (x := x16) (by kernel_rfl) (by rw [hb_1]; kernel_rfl) (by kernel_rfl) ?_
      refine ls_nil ?_
      refine then_normal ?_
      exact ⟨(fun i => ([x14, x15, x16]).getD i undef), x16, by kernel_rfl, HA_2, H⟩
    · refine ls_skip (d := some 14) (by kernel_rfl) (by rw [hb_1]; kernel_rfl) ?_
      refine ls_skip (d := some 15) (by kernel_rfl) (by rw [hb_1]; kernel_rfl) ?_
      refine ls_skip (d := some 16) (by kernel_rfl) (by rw [hb_1]; kernel_rfl) ?_
      refine ls_pick_f (y := (.bool false)) (by kernel_rfl) (by rw [hb_1]; kernel_rfl) (by kernel_rfl) ?_
      refine ls_nil ?_
      refine then_normal ?_
      exact ⟨(fun i => ([undef, undef, undef]).getD i undef), (.bool false), by kernel_rfl, HA_2, H⟩
    · rintro _ w_3 ⟨D_1, x17, rfl, HA_3, H⟩
      refine ls_move (x := x17) (by kernel_rfl) (by kernel_rfl) ?_
      refine ls_and [(), (), (), ()] (fun K a w => ∃ (D_2 : Nat → Value) (x22 : Value), a = ⟨#[x0, x1, (.bool false), x3, x4, x5, x6, x6, (D 0), (D 1), (D 2), (D 3), x12, x12, (D_1 0), (D_1 1), (D_1 2), x17, x17, (D_2 0), (D_2 1), (D_2 2), x22], []⟩ ∧ At w0 w h_2 ∧ K x22) H (fun hb H => ?_) (fun hb H => ?_) ?_
      · refine ls_p (d := some 19) (by kernel_rfl) (by rw [hb]; kernel_rfl) (p_off Try.underlying23 rfl (fun w => ⟨_, Try.sizeOf3 w⟩) rfl (by kernel_rfl) H) (fun x19 H => ?_)
        refine ls_y (d := some 20) (by kernel_rfl) (by rw [hb]; kernel_rfl) HA_3 (y_ld Try.isAgg3 (by kernel_rfl) H) (fun x20 H => ?_)
        refine ls_p (d := some 21) (by kernel_rfl) (by rw [hb]; kernel_rfl) (p_sLt (by kernel_rfl) (by kernel_rfl) H) (fun x21 H => ?_)
        refine ls_pick_t (x := x21) (by kernel_rfl) (by rw [hb]; kernel_rfl) (by kernel_rfl) ?_
        refine ls_nil ?_
        refine then_normal ?_
        exact ⟨(fun i => ([x19, x20, x21]).getD i undef), x21, by kernel_rfl, HA_3, H⟩
      · refine ls_skip (d := some 19) (by kernel_rfl) (by rw [hb]; kernel_rfl) ?_
        refine ls_skip (d := some 20) (by kernel_rfl) (by rw [hb]; kernel_rfl) ?_
        refine ls_skip (d := some 21) (by kernel_rfl) (by rw [hb]; kernel_rfl) ?_
        refine ls_pick_f (y := (.bool false)) (by kernel_rfl) (by rw [hb]; kernel_rfl) (by kernel_rfl) ?_
        refine ls_nil ?_
        refine then_normal ?_
        exact ⟨(fun i => ([undef, undef, undef]).getD i undef), (.bool false), by kernel_rfl, HA_3, H⟩
      · rintro _ w_4 ⟨D_2, x22, rfl, HA_4, H⟩
        refine ls_assign (x := x22) (by kernel_rfl) (by kernel_rfl) ?_
        refine ls_nil ?_
        refine then_normal ?_
        refine fr_eq (b := ⟨#[x0, x1, x22, x3, x4, x5, x6, x6, (D 0), (D 1), (D 2), (D 3), x12, x12, (D_1 0), (D_1 1), (D_1 2), x17, x17, (D_2 0), (D_2 1), (D_2 2), x22], []⟩) (by kernel_rfl) ?_
        refine wp_ret ?_
        exact end1 (Try.results15) (by kernel_rfl) (by kernel_rfl) HA_4 H _ (.inr rfl)

end Go.Proofs.Ytkagmlpnidijaaa
