/- The shallow reading of one function, and that the function does it. Written by a program. -/
import Derived.Test.YthhpieidlpjbmaaFnC
set_option linter.unusedVariables false
namespace Go.Proofs.Ythhpieidlpjbmaa
open Go Go.HW

def betonyref04_Right_S (x0 : Value) (h : Heap) (R : Value → Heap → Prop) : Prop :=
  sBox h x0 23 fun x1 h => 
  sOff x1 0 fun x3 =>
  sLd h x3 fun x4 =>
  betonyref04_far_c x4 h fun x5 h_1 => 
  sNot x5 fun x6 =>
  sAndH x6 h_1 (fun k_4 =>
  sOff x1 1 fun x8 =>
  sLd h_1 x8 fun x9 =>
  betonyref04_far_c x9 h_1 fun x10 h_7 => 
  sNot x10 fun x11 =>
  k_4 x11 h_7) fun x12 h_2 =>
  sAndH x12 h_2 (fun k_3 =>
  sOff x1 2 fun x14 =>
  sLd h_2 x14 fun x15 =>
  betonyref04_far_c x15 h_2 fun x16 h_6 => 
  sNot x16 fun x17 =>
  k_3 x17 h_6) fun x18 h_3 =>
  sAndH x18 h_3 (fun k_2 =>
  sOff x1 3 fun x20 =>
  sLd h_3 x20 fun x21 =>
  betonyref04_far_c x21 h_3 fun x22 h_5 => 
  sNot x22 fun x23 =>
  k_2 x23 h_5) fun x24 h_4 =>
  sAnd x24 (fun k_1 =>
  sOff x1 2 fun x26 =>
  sLd h_4 x26 fun x27 =>
  sGe x27 (.int .i64 0) fun x28 =>
  k_1 x28) fun x29 =>
  sAnd x29 (fun k =>
  sOff x1 3 fun x31 =>
  sLd h_4 x31 fun x32 =>
  sGe x32 (.int .i64 0) fun x33 =>
  k x33) fun x34 =>
  R x34 h_4
set_option maxRecDepth 100000 in
theorem betonyref04_Right_runs {x0 : Value} {h : Heap} {R : Value → Heap → Prop} (H : betonyref04_Right_S x0 h R) : betonyref04_Right_c x0 h R := by
  unfold betonyref04_Right_S at H
  refine runs_of (b := ⟨#[x0, undef, undef, undef, undef, undef, undef, undef, undef, undef, undef, undef, undef, undef, undef, undef, undef, undef, undef, undef, undef, undef, undef, undef, undef, undef, undef, undef, undef, undef, undef, undef, undef, undef, undef], []⟩) Try.call40 Try.func40 rfl (by kernel_rfl) (fun w0 HA => ?_)
  refine wp_seq ?_
  refine lwp_list ?_
  refine ls_d (d := some 1) (by kernel_rfl) (by kernel_rfl) HA (d_box (by kernel_rfl) H) (fun x1 h w H HA => ?_)
  refine ls_assign (x := (.bool false)) (by kernel_rfl) (by kernel_rfl) ?_
  refine ls_nil ?_
  refine then_normal ?_
  refine fr_eq (b := ⟨#[x0, x1, (.bool false), undef, undef, undef, undef, undef, undef, undef, undef, undef, undef, undef, undef, undef, undef, undef, undef, undef, undef, undef, undef, undef, undef, undef, undef, undef, undef, undef, undef, undef, undef, undef, undef], []⟩) (by kernel_rfl) ?_
  refine wp_seq ?_
  refine lwp_list ?_
  refine ls_p (d := some 3) (by kernel_rfl) (by kernel_rfl) (p_off Try.underlying23 rfl (fun w => ⟨_, Try.sizeOf3 w⟩) rfl (by kernel_rfl) H) (fun x3 H => ?_)
  refine ls_y (d := some 4) (by kernel_rfl) (by kernel_rfl) HA (y_ld Try.isAgg3 (by kernel_rfl) H) (fun x4 H => ?_)
  refine ls_d (d := some 5) (by kernel_rfl) (by kernel_rfl) HA (d_call (by kernel_rfl) (by kernel_rfl) H) (fun x5 h_1 w_1 H HA_1 => ?_)
  refine ls_p (d := some 6) (by kernel_rfl) (by kernel_rfl) (p_not (by kernel_rfl) H) (fun x6 H => ?_)
  refine ls_move (x := x6) (by kernel_rfl) (by kernel_rfl) ?_
  refine ls_andh [(), (), (), (), ()] (fun K a w => ∃ (D : Nat → Value) (x12 : Value) (h_2 : Heap), a = ⟨#[x0, x1, (.bool false), x3, x4, x5, x6, x6, (D 0), (D 1), (D 2), (D 3), x12, undef, undef, undef, undef, undef, undef, undef, undef, undef, undef, undef, undef, undef, undef, undef, undef, undef, undef, undef, undef, undef, undef], []⟩ ∧ At w0 w h_2 ∧ K x12 h_2) H (fun hb_4 H => ?_) (fun hb_4 H => ?_) ?_
  · refine ls_p (d := some 8) (by kernel_rfl) (by rw [hb_4]; kernel_rfl) (p_off Try.underlying23 rfl (fun w => ⟨_, Try.sizeOf3 w⟩) rfl (by kernel_rfl) H) (fun x8 H => ?_)
    refine ls_fr (b := ⟨#[x0, x1, (.bool false), x3, x4, x5, x6, x6, x8, undef, undef, undef, undef, undef, undef, undef, undef, undef, undef, undef, undef, undef, undef, undef, undef, undef, undef, undef, undef, undef, undef, undef, undef, undef, undef], []⟩) (by kernel_rfl) ?_
    refine ls_y (d := some 9) (by kernel_rfl) (by rw [hb_4]; kernel_rfl) HA_1 (y_ld Try.isAgg3 (by kernel_rfl) H) (fun x9 H => ?_)
    refine ls_d (d := some 10) (by kernel_rfl) (by rw [hb_4]; kernel_rfl) HA_1 (d_call (by kernel_rfl) (by kernel_rfl) H) (fun x10 h_7 w_9 H HA_9 => ?_)
    refine ls_p (d := some 11) (by kernel_rfl) (by rw [hb_4]; kernel_rfl) (p_not (by kernel_rfl) H) (fun x11 H => ?_)
    refine ls_pick_t (x := x11) (by kernel_rfl) (by rw [hb_4]; kernel_rfl) (by kernel_rfl) ?_
    refine ls_nil ?_
    refine then_normal ?_
    exact ⟨(fun i => ([x8, x9, x10, x11]).getD i undef), x11, h_7, by kernel_rfl, HA_9, H⟩
  · refine ls_skip (d := some 8) (by kernel_rfl) (by rw [hb_4]; kernel_rfl) ?_
    refine ls_fr (b := ⟨#[x0, x1, (.bool false), x3, x4, x5, x6, x6, undef, undef, undef, undef, undef, undef, undef, undef, undef, undef, undef, undef, undef, undef, undef, undef, undef, undef, undef, undef, undef, undef, undef, undef, undef, undef, undef], []⟩) (by kernel_rfl) ?_
    refine ls_skip (d := some 9) (by kernel_rfl) (by rw [hb_4]; kernel_rfl) ?_
    refine ls_skip (d := some 10) (by kernel_rfl) (by rw [hb_4]; kernel_rfl) ?_
    refine ls_skip (d := some 11) (by kernel_rfl) (by rw [hb_4]; kernel_rfl) ?_
    refine ls_pick_f (y := (.bool false)) (by kernel_rfl) (by rw [hb_4]; kernel_rfl) (by kernel_rfl) ?_
    refine ls_nil ?_
    refine then_normal ?_
    exact ⟨(fun i => ([undef, undef, undef, undef]).getD i undef), (.bool false), h_1, by kernel_rfl, HA_1, H⟩
  · rintro _ w_2 ⟨D, x12, h_2, rfl, HA_2, H⟩
    refine ls_move (x := x12) (by kernel_rfl) (by kernel_rfl) ?_
    refine ls_andh [(), (), (), (), ()] (fun K a w => ∃ (D_1 : Nat → Value) (x18 : Value) (h_3 : Heap), a = ⟨#[x0, x1, (.bool false), x3, x4, x5, x6, x6, (D 0), (D 1), (D 2), (D 3), x12, x12, (D_1 0), (D_1 1), (D_1 2), (D_1 3), x18, undef, undef, undef, undef, undef, undef, undef, undef, undef, undef, undef, undef, undef, undef, undef, undef], []⟩ ∧ At w0 w h_3 ∧ K x18 h_3) H (fun hb_3 H => ?_) (fun hb_3 H => ?_) ?_
    · refine ls_p (d := some 14) (by kernel_rfl) (by rw [hb_3]; kernel_rfl) (p_off Try.underlying23 rfl (fun w => ⟨_, Try.sizeOf3 w⟩) rfl (by kernel_rfl) H) (fun x14 H => ?_)
      refine ls_y (d := some 15) (by kernel_rfl) (by rw [hb_3]; kernel_rfl) HA_2 (y_ld Try.isAgg3 (by kernel_rfl) H) (fun x15 H => ?_)
      refine ls_d (d := some 16) (by kernel_rfl) (by rw [hb_3]; kernel_rfl) HA_2 (d_call (by kernel_rfl) (by kernel_rfl) H) (fun x16 h_6 w_8 H HA_8 => ?_)
      refine ls_p (d := some 17) (by kernel_rfl) (by rw [hb_3]; kernel_rfl) (p_not (by kernel_rfl) H) (fun x17 H => ?_)
      refine ls_pick_t (x := x17) (by kernel_rfl) (by rw [hb_3]; kernel_rfl) (by kernel_rfl) ?_
      refine ls_nil ?_
      refine then_normal ?_
      exact ⟨(fun i => ([x14, x15, x16, x17]).getD i undef), x17, h_6, by kernel_rfl, HA_8, H⟩
    · refine ls_skip (d := some 14) (by kernel_rfl) (by rw [hb_3]; kernel_rfl) ?_
      refine ls_skip (d := some 15) (by kernel_rfl) (by rw [hb_3]; kernel_rfl) ?_
      refine ls_skip (d := some 16) (by kernel_rfl) (by rw [hb_3]; kernel_rfl) ?_
      refine ls_skip (d := some 17) (by kernel_rfl) (by rw [hb_3]; kernel_rfl) ?_
      refine ls_pick_f (y := (.bool false)) (by kernel_rfl) (by rw [hb_3]; kernel_rfl) (by kernel_rfl) ?_
      refine ls_nil ?_
      refine then_normal ?_
      exact ⟨(fun i => ([undef, undef, undef, undef]).getD i undef), (.bool false), h_2, by kernel_rfl, HA_2, H⟩
    · rintro _ w_3 ⟨D_1, x18, h_3, rfl, HA_3, H⟩
      refine ls_move (x := x18) (by kernel_rfl) (by kernel_rfl) ?_
      refine ls_andh [(), (), (), (), ()] (fun K a w => ∃ (D_2 : Nat → Value) (x24 : Value) (h_4 : Heap), a = ⟨#[x0, x1, (.bool false), x3, x4, x5, x6, x6, (D 0), (D 1), (D 2), (D 3), x12, x12, (D_1 0), (D_1 1), (D_1 2), (D_1 3), x18, x18, (D_2 0), (D_2 1), (D_2 2), (D_2 3), x24, undef, undef, undef, undef, undef, undef, undef, undef, undef, undef], []⟩ ∧ At w0 w h_4 ∧ K x24 h_4) H (fun hb_2 H => ?_) (fun hb_2 H => ?_) ?_
      · refine ls_p (d := some 20) (by kernel_rfl) (by rw [hb_2]; kernel_rfl) (p_off Try.underlying23 rfl (fun w => ⟨_, Try.sizeOf3 w⟩) rfl (by kernel_rfl) H) (fun x20 H => ?_)
        refine ls_y (d := some 21) (by kernel_rfl) (by rw [hb_2]; kernel_rfl) HA_3 (y_ld Try.isAgg3 (by kernel_rfl) H) (fun x21 H => ?_)
        refine ls_d (d := some 22) (by kernel_rfl) (by rw [hb_2]; kernel_rfl) HA_3 (d_call (by kernel_rfl) (by kernel_rfl) H) (fun x22 h_5 w_7 H HA_7 => ?_)
        refine ls_p (d := some 23) (by kernel_rfl) (by rw [hb_2]; kernel_rfl) (p_not (by kernel_rfl) H) (fun x23 H => ?_)
        refine ls_pick_t (x := x23) (by kernel_rfl) (by rw [hb_2]; kernel_rfl) (by kernel_rfl) ?_
        refine ls_nil ?_
        refine then_normal ?_
        exact ⟨(fun i => ([x20, x21, x22, x23]).getD i undef), x23, h_5, by kernel_rfl, HA_7, H⟩
      · refine ls_skip (d := some 20) (by kernel_rfl) (by rw [hb_2]; kernel_rfl) ?_
        refine ls_skip (d := some 21) (by kernel_rfl) (by rw [hb_2]; kernel_rfl) ?_
        refine ls_skip (d := some 22) (by kernel_rfl) (by rw [hb_2]; kernel_rfl) ?_
        refine ls_skip (d := some 23) (by kernel_rfl) (by rw [hb_2]; kernel_rfl) ?_
        refine ls_pick_f (y := (.bool false)) (by kernel_rfl) (by rw [hb_2]; kernel_rfl) (by kernel_rfl) ?_
        refine ls_nil ?_
        refine then_normal ?_
        exact ⟨(fun i => ([undef, undef, undef, undef]).getD i undef), (.bool false), h_3, by kernel_rfl, HA_3, H⟩
      · rintro _ w_4 ⟨D_2, x24, h_4, rfl, HA_4, H⟩
        refine ls_move (x := x24) (by kernel_rfl) (by kernel_rfl) ?_
        refine ls_and [(), (), (), ()] (fun K a w => ∃ (D_3 : Nat → Value) (x29 : Value), a = ⟨#[x0, x1, (.bool false), x3, x4, x5, x6, x6, (D 0), (D 1), (D 2), (D 3), x12, x12, (D_1 0), (D_1 1), (D_1 2), (D_1 3), x18, x18, (D_2 0), (D_2 1), (D_2 2), (D_2 3), x24, x24, (D_3 0), (D_3 1), (D_3 2), x29, undef, undef, undef, undef, undef], []⟩ ∧ At w0 w h_4 ∧ K x29) H (fun hb_1 H => ?_) (fun hb_1 H => ?_) ?_
        · refine ls_p (d := some 26) (by kernel_rfl) (by rw [hb_1]; kernel_rfl) (p_off Try.underlying23 rfl (fun w => ⟨_, Try.sizeOf3 w⟩) rfl (by kernel_rfl) H) (fun x26 H => ?_)
          refine ls_y (d := some 27) (by kernel_rfl) (by rw [hb_1]; kernel_rfl) HA_4 (y_ld Try.isAgg3 (by kernel_rfl) H) (fun x27 H => ?_)
          refine ls_p (d := some 28) (by kernel_rfl) (by rw [hb_1]; kernel_rfl) (p_sGe (by kernel_rfl) (by kernel_rfl) H) (fun x28 H => ?_)
          refine ls_pick_t (x := x28) (by kernel_rfl) (by rw [hb_1]; kernel_rfl) (by kernel_rfl) ?_
          refine ls_nil ?_
          refine then_normal ?_
          exact ⟨(fun i => ([x26, x27, x28]).getD i undef), x28, by kernel_rfl, HA_4, H⟩
        · refine ls_skip (d := some 26) (by kernel_rfl) (by rw [hb_1]; kernel_rfl) ?_
          refine ls_skip (d := some 27) (by kernel_rfl) (by rw [hb_1]; kernel_rfl) ?_
          refine ls_skip (d := some 28) (by kernel_rfl) (by rw [hb_1]; kernel_rfl) ?_
          refine ls_pick_f (y := (.bool false)) (by kernel_rfl) (by rw [hb_1]; kernel_rfl) (by kernel_rfl) ?_
          refine ls_nil ?_
          refine then_normal ?_
          exact ⟨(fun i => ([undef, undef, undef]).getD i undef), (.bool false), by kernel_rfl, HA_4, H⟩
        · rintro _ w_5 ⟨D_3, x29, rfl, HA_5, H⟩
          refine ls_move (x := x29) (by kernel_rfl) (by kernel_rfl) ?_
          refine ls_and [(), (), (), ()] (fun K a w => ∃ (D_4 : Nat → Value) (x34 : Value), a = ⟨#[x0, x1, (.bool false), x3, x4, x5, x6, x6, (D 0), (D 1), (D 2), (D 3), x12, x12, (D_1 0), (D_1 1), (D_1 2), (D_1 3), x18, x18, (D_2 0), (D_2 1), (D_2 2), (D_2 3), x24, x24, (D_3 0), (D_3 1), (D_3 2), x29, x29, (D_4 0), (D_4 1), (D_4 2), x34], []⟩ ∧ At w0 w h_4 ∧ K x34) H (fun hb H => ?_) (fun hb H => ?_) ?_
          · refine ls_p (d := some 31) (by kernel_rfl) (by rw [hb]; kernel_rfl) (p_off Try.underlying23 rfl (fun w => ⟨_, Try.sizeOf3 w⟩) rfl (by kernel_rfl) H) (fun x31 H => ?_)
            refine ls_y (d := some 32) (by kernel_rfl) (by rw [hb]; kernel_rfl) HA_5 (y_ld Try.isAgg3 (by kernel_rfl) H) (fun x32 H => ?_)
            refine ls_p (d := some 33) (by kernel_rfl) (by rw [hb]; kernel_rfl) (p_sGe (by kernel_rfl) (by kernel_rfl) H) (fun x33 H => ?_)
            refine ls_pick_t (x := x33) (by kernel_rfl) (by rw [hb]; kernel_rfl) (by kernel_rfl) ?_
            refine ls_nil ?_
            refine then_normal ?_
            exact ⟨(fun i => ([x31, x32, x33]).getD i undef), x33, by kernel_rfl, HA_5, H⟩
          · refine ls_skip (d := some 31) (by kernel_rfl) (by rw [hb]; kernel_rfl) ?_
            refine ls_skip (d := some 32) (by kernel_rfl) (by rw [hb]; kernel_rfl) ?_
            refine ls_skip (d := some 33) (by kernel_rfl) (by rw [hb]; kernel_rfl) ?_
            refine ls_pick_f (y := (.bool false)) (by kernel_rfl) (by rw [hb]; kernel_rfl) (by kernel_rfl) ?_
            refine ls_nil ?_
            refine then_normal ?_
            exact ⟨(fun i => ([undef, undef, undef]).getD i undef), (.bool false), by kernel_rfl, HA_5, H⟩
          · rintro _ w_6 ⟨D_4, x34, rfl, HA_6, H⟩
            refine ls_assign (x := x34) (by kernel_rfl) (by kernel_rfl) ?_
            refine ls_nil ?_
            refine then_normal ?_
            refine fr_eq (b := ⟨#[x0, x1, x34, x3, x4, x5, x6, x6, (D 0), (D 1), (D 2), (D 3), x12, x12, (D_1 0), (D_1 1), (D_1 2), (D_1 3), x18, x18, (D_2 0), (D_2 1), (D_2 2), (D_2 3), x24, x24, (D_3 0), (D_3 1), (D_3 2), x29, x29, (D_4 0), (D_4 1), (D_4 2), x34], []⟩) (by kernel_rfl) ?_
            refine wp_ret ?_
            exact end1 (Try.results40) (by kernel_rfl) (by kernel_rfl) HA_6 H _ (.inr rfl)

end Go.Proofs.Ythhpieidlpjbmaa
