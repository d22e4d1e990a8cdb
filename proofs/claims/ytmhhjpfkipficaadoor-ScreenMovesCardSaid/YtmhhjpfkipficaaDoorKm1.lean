/- Texts in one. -/
import Derived.Test.YtmhhjpfkipficaaDoorFnC
import Derived.Test.YtmhhjpfkipficaaDoorHwB
section
/- The shallow reading of one function, and that the function does it. Written by a program. -/
set_option linter.unusedVariables false
namespace Go.Proofs.YtmhhjpfkipficaaDoor
open Go Go.HW

def rect_within_S (x0 x1 x2 : Value) (h : Heap) (R : Value → Heap → Prop) : Prop :=
  sGt x2 (.int .i64 0) fun x8 =>
  sAnd x8 (fun k_1 =>
  sGe x0 x1 fun x12 =>
  k_1 x12) fun x13 =>
  sAnd x13 (fun k =>
  sConv .u64 x0 fun x16 =>
  sConv .u64 x1 fun x18 =>
  sSub .u64 x16 x18 fun x19 =>
  sConv .u64 x2 fun x21 =>
  sLt x19 x21 fun x22 =>
  k x22) fun x23 =>
  R x23 h
set_option maxRecDepth 100000 in
theorem rect_within_runs {x0 x1 x2 : Value} {h : Heap} {R : Value → Heap → Prop} (H : rect_within_S x0 x1 x2 h R) : rect_within_c x0 x1 x2 h R := by
  unfold rect_within_S at H
  refine runs_of (b := ⟨#[x0, x1, x2, undef, undef, undef, undef, undef, undef, undef, undef, undef, undef, undef, undef, undef, undef, undef, undef, undef, undef, undef, undef, undef], []⟩) Tryd.call93 Tryd.func93 rfl (by kernel_rfl) (fun w0 HA => ?_)
  refine wp_seq ?_
  refine lwp_list ?_
  refine ls_assign (x := (.bool false)) (by kernel_rfl) (by kernel_rfl) ?_
  refine ls_nil ?_
  refine then_normal ?_
  refine fr_eq (b := ⟨#[x0, x1, x2, undef, undef, undef, (.bool false), undef, undef, undef, undef, undef, undef, undef, undef, undef, undef, undef, undef, undef, undef, undef, undef, undef], []⟩) (by kernel_rfl) ?_
  refine wp_seq ?_
  refine lwp_list ?_
  refine ls_move (x := x2) (by kernel_rfl) (by kernel_rfl) ?_
  refine ls_p (d := some 8) (by kernel_rfl) (by kernel_rfl) (p_sGt (by kernel_rfl) (by kernel_rfl) H) (fun x8 H => ?_)
  refine ls_move (x := x8) (by kernel_rfl) (by kernel_rfl) ?_
  refine ls_and [(), (), (), ()] (fun K a w => ∃ (D : Nat → Value) (x13 : Value), a = ⟨#[x0, x1, x2, undef, undef, undef, (.bool false), x2, x8, x8, (D 0), (D 1), (D 2), x13, undef, undef, undef, undef, undef, undef, undef, undef, undef, undef], []⟩ ∧ At w0 w h ∧ K x13) H (fun hb_1 H => ?_) (fun hb_1 H => ?_) ?_
  · refine ls_move (x := x0) (by rw [hb_1]; kernel_rfl) (by kernel_rfl) ?_
    refine ls_move (x := x1) (by rw [hb_1]; kernel_rfl) (by kernel_rfl) ?_
    refine ls_p (d := some 12) (by kernel_rfl) (by rw [hb_1]; kernel_rfl) (p_sGe (by kernel_rfl) (by kernel_rfl) H) (fun x12 H => ?_)
    refine ls_fr (b := ⟨#[x0, x1, x2, undef, undef, undef, (.bool false), x2, x8, x8, x0, x1, x12, undef, undef, undef, undef, undef, undef, undef, undef, undef, undef, undef], []⟩) (by kernel_rfl) ?_
    refine ls_pick_t (x := x12) (by kernel_rfl) (by rw [hb_1]; kernel_rfl) (by kernel_rfl) ?_
    refine ls_nil ?_
    refine then_normal ?_
    exact ⟨(fun i => ([x0, x1, x12]).getD i undef), x12, by kernel_rfl, HA, H⟩
  · refine ls_skip (d := some 10) (by kernel_rfl) (by rw [hb_1]; kernel_rfl) ?_
    refine ls_skip (d := some 11) (by kernel_rfl) (by rw [hb_1]; kernel_rfl) ?_
    refine ls_skip (d := some 12) (by kernel_rfl) (by rw [hb_1]; kernel_rfl) ?_
    refine ls_fr (b := ⟨#[x0, x1, x2, undef, undef, undef, (.bool false), x2, x8, x8, undef, undef, undef, undef, undef, undef, undef, undef, undef, undef, undef, undef, undef, undef], []⟩) (by kernel_rfl) ?_
    refine ls_pick_f (y := (.bool false)) (by kernel_rfl) (by rw [hb_1]; kernel_rfl) (by kernel_rfl) ?_
    refine ls_nil ?_
    refine then_normal ?_
    exact ⟨(fun i => ([undef, undef, undef]).getD i undef), (.bool false), by kernel_rfl, HA, H⟩
  · rintro _ w ⟨D, x13, rfl, HA, H⟩
    refine ls_move (x := x13) (by kernel_rfl) (by kernel_rfl) ?_
    refine ls_and [(), (), (), (), (), (), (), (), ()] (fun K a w => ∃ (D_1 : Nat → Value) (x23 : Value), a = ⟨#[x0, x1, x2, undef, undef, undef, (.bool false), x2, x8, x8, (D 0), (D 1), (D 2), x13, x13, (D_1 0), (D_1 1), (D_1 2), (D_1 3), (D_1 4), (D_1 5), (D_1 6), (D_1 7), x23], []⟩ ∧ At w0 w h ∧ K x23) H (fun hb H => ?_) (fun hb H => ?_) ?_
    · refine ls_move (x := x0) (by rw [hb]; kernel_rfl) (by kernel_rfl) ?_
      refine ls_p (d := some 16) (by kernel_rfl) (by rw [hb]; kernel_rfl) (p_conv Tryd.underlying3 Tryd.underlying110 (by kernel_rfl) H) (fun x16 H => ?_)
      refine ls_move (x := x1) (by rw [hb]; kernel_rfl) (by kernel_rfl) ?_
      refine ls_p (d := some 18) (by kernel_rfl) (by rw [hb]; kernel_rfl) (p_conv Tryd.underlying3 Tryd.underlying110 (by kernel_rfl) H) (fun x18 H => ?_)
      refine ls_p (d := some 19) (by kernel_rfl) (by rw [hb]; kernel_rfl) (p_sub (by kernel_rfl) (by kernel_rfl) H) (fun x19 H => ?_)
      refine ls_fr (b := ⟨#[x0, x1, x2, undef, undef, undef, (.bool false), x2, x8, x8, (D 0), (D 1), (D 2), x13, x13, x0, x16, x1, x18, x19, undef, undef, undef, undef], []⟩) (by kernel_rfl) ?_
      refine ls_move (x := x2) (by rw [hb]; kernel_rfl) (by kernel_rfl) ?_
      refine ls_p (d := some 21) (by kernel_rfl) (by rw [hb]; kernel_rfl) (p_conv Tryd.underlying3 Tryd.underlying110 (by kernel_rfl) H) (fun x21 H => ?_)
      refine ls_p (d := some 22) (by kernel_rfl) (by rw [hb]; kernel_rfl) (p_sLt (by kernel_rfl) (by kernel_rfl) H) (fun x22 H => ?_)
      refine ls_pick_t (x := x22) (by kernel_rfl) (by rw [hb]; kernel_rfl) (by kernel_rfl) ?_
      refine ls_nil ?_
      refine then_normal ?_
      exact ⟨(fun i => ([x0, x16, x1, x18, x19, x2, x21, x22]).getD i undef), x22, by kernel_rfl, HA, H⟩
    · refine ls_skip (d := some 15) (by kernel_rfl) (by rw [hb]; kernel_rfl) ?_
      refine ls_skip (d := some 16) (by kernel_rfl) (by rw [hb]; kernel_rfl) ?_
      refine ls_skip (d := some 17) (by kernel_rfl) (by rw [hb]; kernel_rfl) ?_
      refine ls_skip (d := some 18) (by kernel_rfl) (by rw [hb]; kernel_rfl) ?_
      refine ls_skip (d := some 19) (by kernel_rfl) (by rw [hb]; kernel_rfl) ?_
      refine ls_fr (b := ⟨#[x0, x1, x2, undef, undef, undef, (.bool false), x2, x8, x8, (D 0), (D 1), (D 2), x13, x13, undef, undef, undef, undef, undef, undef, undef, undef, undef], []⟩) (by kernel_rfl) ?_
      refine ls_skip (d := some 20) (by kernel_rfl) (by rw [hb]; kernel_rfl) ?_
      refine ls_skip (d := some 21) (by kernel_rfl) (by rw [hb]; kernel_rfl) ?_
      refine ls_skip (d := some 22) (by kernel_rfl) (by rw [hb]; kernel_rfl) ?_
      refine ls_pick_f (y := (.bool false)) (by kernel_rfl) (by rw [hb]; kernel_rfl) (by kernel_rfl) ?_
      refine ls_nil ?_
      refine then_normal ?_
      exact ⟨(fun i => ([undef, undef, undef, undef, undef, undef, undef, undef]).getD i undef), (.bool false), by kernel_rfl, HA, H⟩
    · rintro _ w_1 ⟨D_1, x23, rfl, HA_1, H⟩
      refine ls_assign (x := x23) (by kernel_rfl) (by kernel_rfl) ?_
      refine ls_nil ?_
      refine then_normal ?_
      refine fr_eq (b := ⟨#[x0, x1, x2, undef, undef, undef, x23, x2, x8, x8, (D 0), (D 1), (D 2), x13, x13, (D_1 0), (D_1 1), (D_1 2), (D_1 3), (D_1 4), (D_1 5), (D_1 6), (D_1 7), x23], []⟩) (by kernel_rfl) ?_
      refine wp_ret ?_
      exact end1 (Tryd.results93) (by kernel_rfl) (by kernel_rfl) HA_1 H _ (.inr rfl)

end Go.Proofs.YtmhhjpfkipficaaDoor

end

section
/- The shallow reading of one function, and that the function does it. Written by a program. -/
set_option linter.unusedVariables false
namespace Go.Proofs.YtmhhjpfkipficaaDoor
open Go Go.HW

def rect_In_S (x0 x1 x2 : Value) (h : Heap) (R : Value → Heap → Prop) : Prop :=
  sBox h x0 83 fun x3 h => 
  sOff x3 0 fun x8 =>
  sLd h x8 fun x9 =>
  sOff x3 2 fun x10 =>
  sLd h x10 fun x11 =>
  rect_within_c x1 x9 x11 h fun x12 h_1 => 
  sAndH x12 h_1 (fun k =>
  sOff x3 1 fun x15 =>
  sLd h_1 x15 fun x16 =>
  sOff x3 3 fun x17 =>
  sLd h_1 x17 fun x18 =>
  rect_within_c x2 x16 x18 h_1 fun x19 h_3 => 
  k x19 h_3) fun x20 h_2 =>
  R x20 h_2
set_option maxRecDepth 100000 in
theorem rect_In_runs {x0 x1 x2 : Value} {h : Heap} {R : Value → Heap → Prop} (H : rect_In_S x0 x1 x2 h R) : rect_In_c x0 x1 x2 h R := by
  unfold rect_In_S at H
  refine runs_of (b := ⟨#[x0, x1, x2, undef, undef, undef, undef, undef, undef, undef, undef, undef, undef, undef, undef, undef, undef, undef, undef, undef, undef], []⟩) Tryd.call71 Tryd.func71 rfl (by kernel_rfl) (fun w0 HA => ?_)
  refine wp_seq ?_
  refine lwp_list ?_
  refine ls_d (d := some 3) (by kernel_rfl) (by kernel_rfl) HA (d_box (by kernel_rfl) H) (fun x3 h w H HA => ?_)
  refine ls_assign (x := (.bool false)) (by kernel_rfl) (by kernel_rfl) ?_
  refine ls_nil ?_
  refine then_normal ?_
  refine fr_eq (b := ⟨#[x0, x1, x2, x3, undef, undef, (.bool false), undef, undef, undef, undef, undef, undef, undef, undef, undef, undef, undef, undef, undef, undef], []⟩) (by kernel_rfl) ?_
  refine wp_seq ?_
  refine lwp_list ?_
  refine ls_move (x := x1) (by kernel_rfl) (by kernel_rfl) ?_
  refine ls_p (d := some 8) (by kernel_rfl) (by kernel_rfl) (p_off Tryd.underlying83 rfl (fun w => ⟨_, Tryd.sizeOf3 w⟩) rfl (by kernel_rfl) H) (fun x8 H => ?_)
  refine ls_y (d := some 9) (by kernel_rfl) (by kernel_rfl) HA (y_ld Tryd.isAgg3 (by kernel_rfl) H) (fun x9 H => ?_)
  refine ls_p (d := some 10) (by kernel_rfl) (by kernel_rfl) (p_off Tryd.underlying83 rfl (fun w => ⟨_, Tryd.sizeOf3 w⟩) rfl (by kernel_rfl) H) (fun x10 H => ?_)
  refine ls_y (d := some 11) (by kernel_rfl) (by kernel_rfl) HA (y_ld Tryd.isAgg3 (by kernel_rfl) H) (fun x11 H => ?_)
  refine ls_d (d := some 12) (by kernel_rfl) (by kernel_rfl) HA (d_call (by kernel_rfl) (by kernel_rfl) H) (fun x12 h_1 w_1 H HA_1 => ?_)
  refine ls_fr (b := ⟨#[x0, x1, x2, x3, undef, undef, (.bool false), x1, x8, x9, x10, x11, x12, undef, undef, undef, undef, undef, undef, undef, undef], []⟩) (by kernel_rfl) ?_
  refine ls_move (x := x12) (by kernel_rfl) (by kernel_rfl) ?_
  refine ls_andh [(), (), (), (), (), (), ()] (fun K a w => ∃ (D : Nat → Value) (x20 : Value) (h_2 : Heap), a = ⟨#[x0, x1, x2, x3, undef, undef, (.bool false), x1, x8, x9, x10, x11, x12, x12, (D 0), (D 1), (D 2), (D 3), (D 4), (D 5), x20], []⟩ ∧ At w0 w h_2 ∧ K x20 h_2) H (fun hb H => ?_) (fun hb H => ?_) ?_
  · refine ls_move (x := x2) (by rw [hb]; kernel_rfl) (by kernel_rfl) ?_
    refine ls_p (d := some 15) (by kernel_rfl) (by rw [hb]; kernel_rfl) (p_off Tryd.underlying83 rfl (fun w => ⟨_, Tryd.sizeOf3 w⟩) rfl (by kernel_rfl) H) (fun x15 H => ?_)
    refine ls_y (d := some 16) (by kernel_rfl) (by rw [hb]; kernel_rfl) HA_1 (y_ld Tryd.isAgg3 (by kernel_rfl) H) (fun x16 H => ?_)
    refine ls_p (d := some 17) (by kernel_rfl) (by rw [hb]; kernel_rfl) (p_off Tryd.underlying83 rfl (fun w => ⟨_, Tryd.sizeOf3 w⟩) rfl (by kernel_rfl) H) (fun x17 H => ?_)
    refine ls_y (d := some 18) (by kernel_rfl) (by rw [hb]; kernel_rfl) HA_1 (y_ld Tryd.isAgg3 (by kernel_rfl) H) (fun x18 H => ?_)
    refine ls_fr (b := ⟨#[x0, x1, x2, x3, undef, undef, (.bool false), x1, x8, x9, x10, x11, x12, x12, x2, x15, x16, x17, x18, undef, undef], []⟩) (by kernel_rfl) ?_
    refine ls_d (d := some 19) (by kernel_rfl) (by rw [hb]; kernel_rfl) HA_1 (d_call (by kernel_rfl) (by kernel_rfl) H) (fun x19 h_3 w_3 H HA_3 => ?_)
    refine ls_pick_t (x := x19) (by kernel_rfl) (by rw [hb]; kernel_rfl) (by kernel_rfl) ?_
    refine ls_nil ?_
    refine then_normal ?_
    exact ⟨(fun i => ([x2, x15, x16, x17, x18, x19]).getD i undef), x19, h_3, by kernel_rfl, HA_3, H⟩
  · refine ls_skip (d := some 14) (by kernel_rfl) (by rw [hb]; kernel_rfl) ?_
    refine ls_skip (d := some 15) (by kernel_rfl) (by rw [hb]; kernel_rfl) ?_
    refine ls_skip (d := some 16) (by kernel_rfl) (by rw [hb]; kernel_rfl) ?_
    refine ls_skip (d := some 17) (by kernel_rfl) (by rw [hb]; kernel_rfl) ?_
    refine ls_skip (d := some 18) (by kernel_rfl) (by rw [hb]; kernel_rfl) ?_
    refine ls_fr (b := ⟨#[x0, x1, x2, x3, undef, undef, (.bool false), x1, x8, x9, x10, x11, x12, x12, undef, undef, undef, undef, undef, undef, undef], []⟩) (by kernel_rfl) ?_
    refine ls_skip (d := some 19) (by kernel_rfl) (by rw [hb]; kernel_rfl) ?_
    refine ls_pick_f (y := (.bool false)) (by kernel_rfl) (by rw [hb]; kernel_rfl) (by kernel_rfl) ?_
    refine ls_nil ?_
    refine then_normal ?_
    exact ⟨(fun i => ([undef, undef, undef, undef, undef, undef]).getD i undef), (.bool false), h_1, by kernel_rfl, HA_1, H⟩
  · rintro _ w_2 ⟨D, x20, h_2, rfl, HA_2, H⟩
    refine ls_assign (x := x20) (by kernel_rfl) (by kernel_rfl) ?_
    refine ls_nil ?_
    refine then_normal ?_
    refine fr_eq (b := ⟨#[x0, x1, x2, x3, undef, undef, x20, x1, x8, x9, x10, x11, x12, x12, (D 0), (D 1), (D 2), (D 3), (D 4), (D 5), x20], []⟩) (by kernel_rfl) ?_
    refine wp_ret ?_
    exact end1 (Tryd.results71) (by kernel_rfl) (by kernel_rfl) HA_2 H _ (.inr rfl)

end Go.Proofs.YtmhhjpfkipficaaDoor

end

section
/- The shallow reading of one function, and that the function does it. Written by a program. -/
set_option linter.unusedVariables false
namespace Go.Proofs.YtmhhjpfkipficaaDoor
open Go Go.HW

def grid_Grid_all_S (x0 : Value) (h : Heap) (R : Value → Heap → Prop) : Prop :=
  sNew h #[.int .i64 0, .int .i64 0, .int .i64 0, .int .i64 0] 83 fun x2 h => 
  sNil x0 fun x4 =>
  sOff x4 0 fun x5 =>
  sLd h x5 fun x6 =>
  sNil x0 fun x8 =>
  sOff x8 1 fun x9 =>
  sLd h x9 fun x10 =>
  sBuild #[.int .i64 0, .int .i64 0, .int .i64 0, .int .i64 0] [(2, 1, x6), (3, 1, x10)] fun x11 =>
  sStN h x2 x11 4 fun h_1 => 
  sLdN h_1 x2 4 fun r2 =>
  R r2 h_1
set_option maxRecDepth 100000 in
theorem grid_Grid_all_runs {x0 : Value} {h : Heap} {R : Value → Heap → Prop} (H : grid_Grid_all_S x0 h R) : grid_Grid_all_c x0 h R := by
  unfold grid_Grid_all_S at H
  refine runs_of (b := ⟨#[x0, undef, undef, undef, undef, undef, undef, undef, undef, undef, undef, undef], []⟩) Tryd.call72 Tryd.func72 rfl (by kernel_rfl) (fun w0 HA => ?_)
  refine wp_seq ?_
  refine lwp_list ?_
  refine ls_d (d := some 2) (by kernel_rfl) (by kernel_rfl) HA (d_alloc Tryd.zeroValue83 H) (fun x2 h w H HA => ?_)
  refine ls_nil ?_
  refine then_normal ?_
  refine fr_eq (b := ⟨#[x0, undef, x2, undef, undef, undef, undef, undef, undef, undef, undef, undef], []⟩) (by kernel_rfl) ?_
  refine wp_seq ?_
  refine lwp_mx (Nat.testBit 512) (Nat.testBit 0) (Nat.testBit 375) [0, 1, 3, 7, 0, 16, 48, 112, 255, 511] (Nat.testBit 0) (fun h' => h' = h) [0, 1, 2, 3, 4, 5, 6, 7, 8, 9] (by kernel_rfl) (by kernel_rfl) (by kernel_rfl) (by kernel_rfl) HA rfl ?_
  intro w_1 HA_1
  refine lm_al (x := x0) (d := some 3) (by kernel_rfl) rfl (by kernel_rfl) (by kernel_rfl) (al_move (by kernel_rfl)) ?_
  refine lm_p (d := some 4) (by kernel_rfl) rfl (by kernel_rfl) (by kernel_rfl) (p_nil (by kernel_rfl) H) (fun x4 H => ?_)
  refine lm_p (d := some 5) (by kernel_rfl) rfl (by kernel_rfl) (by kernel_rfl) (p_off Tryd.underlying89 rfl (fun w => ⟨_, Tryd.sizeOf3 w⟩) rfl (by kernel_rfl) H) (fun x5 H => ?_)
  refine lm_f (d := some 6) (by kernel_rfl) rfl (by kernel_rfl) (by kernel_rfl) (by kernel_rfl) (by kernel_rfl) (of_eq (y_ld Tryd.isAgg3 (by kernel_rfl) H)) (fun x6 H => ?_)
  refine lm_al (x := x0) (d := some 7) (by kernel_rfl) rfl (by kernel_rfl) (by kernel_rfl) (al_move (by kernel_rfl)) ?_
  refine lm_p (d := some 8) (by kernel_rfl) rfl (by kernel_rfl) (by kernel_rfl) (p_nil (by kernel_rfl) H) (fun x8 H => ?_)
  refine lm_p (d := some 9) (by kernel_rfl) rfl (by kernel_rfl) (by kernel_rfl) (p_off Tryd.underlying89 rfl (fun w => ⟨_, Tryd.sizeOf3 w⟩) rfl (by kernel_rfl) H) (fun x9 H => ?_)
  refine lm_f (d := some 10) (by kernel_rfl) rfl (by kernel_rfl) (by kernel_rfl) (by kernel_rfl) (by kernel_rfl) (of_eq (y_ld Tryd.isAgg3 (by kernel_rfl) H)) (fun x10 H => ?_)
  refine lm_p (d := some 11) (by kernel_rfl) rfl (by kernel_rfl) (by kernel_rfl) (p_lit (pl := [(0, 1), (1, 1), (2, 1), (3, 1)]) Tryd.zeroValue83 Tryd.underlying83 ⟨(by kernel_rfl), Tryd.sizeOf3, (by kernel_rfl), Tryd.sizeOf3, (by kernel_rfl), Tryd.sizeOf3, (by kernel_rfl), Tryd.sizeOf3, trivial⟩ (by kernel_rfl) (by kernel_rfl) H) (fun x11 H => ?_)
  refine lm_d (d := none) (by kernel_rfl) rfl (by kernel_rfl) (by kernel_rfl) (by kernel_rfl) HA_1 (d_stn Tryd.sizeOf83 (by kernel_rfl) (by kernel_rfl) H) (fun _ h_1 w_2 H HA_2 => ?_)
  refine lm_nil ?_
  refine then_normal ?_
  refine fr_eq (b := ⟨#[x0, undef, x2, x0, x4, x5, x6, x0, x8, x9, x10, x11], []⟩) (by kernel_rfl) ?_
  refine wp_ret ?_
  obtain ⟨r2, hr2, H⟩ := ld_n Tryd.isAgg83 Tryd.sizeOf83 H
  exact endR (vs := [r2]) (Tryd.results72) (by kernel_rfl) ⟨⟨_, (by kernel_rfl), hr2⟩, trivial⟩ HA_2 H _ (.inr rfl)

end Go.Proofs.YtmhhjpfkipficaaDoor

end

section
/- The shallow reading of one function, and that the function does it. Written by a program. -/
set_option linter.unusedVariables false
namespace Go.Proofs.YtmhhjpfkipficaaDoor
open Go Go.HW

def grid_Grid_row_S (x0 x1 : Value) (h : Heap) (R : Value → Heap → Prop) : Prop :=
  sNil x0 fun x6 =>
  sOff x6 2 fun x7 =>
  sLd h x7 fun x8 =>
  sNil x0 fun x11 =>
  sOff x11 0 fun x12 =>
  sLd h x12 fun x13 =>
  sMul .i64 x1 x13 fun x14 =>
  sAdd .i64 x1 (.int .i64 1) fun x16 =>
  sNil x0 fun x18 =>
  sOff x18 0 fun x19 =>
  sLd h x19 fun x20 =>
  sMul .i64 x16 x20 fun x21 =>
  sSl x8 (some x14) (some x21) 4 fun x22 =>
  R x22 h
set_option maxRecDepth 100000 in
theorem grid_Grid_row_runs {x0 x1 : Value} {h : Heap} {R : Value → Heap → Prop} (H : grid_Grid_row_S x0 x1 h R) : grid_Grid_row_c x0 x1 h R := by
  unfold grid_Grid_row_S at H
  refine runs_of (b := ⟨#[x0, x1, undef, undef, undef, undef, undef, undef, undef, undef, undef, undef, undef, undef, undef, undef, undef, undef, undef, undef, undef, undef, undef], []⟩) Tryd.call73 Tryd.func73 rfl (by kernel_rfl) (fun w0 HA => ?_)
  refine wp_seq ?_
  refine lwp_list ?_
  refine ls_assign (x := (.slice none 0 0)) (by kernel_rfl) (by kernel_rfl) ?_
  refine ls_nil ?_
  refine then_normal ?_
  refine fr_eq (b := ⟨#[x0, x1, undef, undef, (.slice none 0 0), undef, undef, undef, undef, undef, undef, undef, undef, undef, undef, undef, undef, undef, undef, undef, undef, undef, undef], []⟩) (by kernel_rfl) ?_
  refine wp_seq ?_
  refine lwp_qt (by kernel_rfl) (by kernel_rfl) HA ?_
  refine lq_move (x := x0) (by kernel_rfl) (by kernel_rfl) ?_
  refine lq_p (d := some 6) (by kernel_rfl) (by kernel_rfl) (p_nil (by kernel_rfl) H) (fun x6 H => ?_)
  refine lq_p (d := some 7) (by kernel_rfl) (by kernel_rfl) (p_off Tryd.underlying89 rfl (fun w => ⟨_, Tryd.sizeOf32 w⟩) rfl (by kernel_rfl) H) (fun x7 H => ?_)
  refine lq_y (d := some 8) (by kernel_rfl) (by kernel_rfl) HA (y_ld Tryd.isAgg32 (by kernel_rfl) H) (fun x8 H => ?_)
  refine lq_move (x := x1) (by kernel_rfl) (by kernel_rfl) ?_
  refine lq_move (x := x0) (by kernel_rfl) (by kernel_rfl) ?_
  refine lq_fr (b := ⟨#[x0, x1, undef, undef, (.slice none 0 0), x0, x6, x7, x8, x1, x0, undef, undef, undef, undef, undef, undef, undef, undef, undef, undef, undef, undef], []⟩) (by kernel_rfl) ?_
  refine lq_p (d := some 11) (by kernel_rfl) (by kernel_rfl) (p_nil (by kernel_rfl) H) (fun x11 H => ?_)
  refine lq_p (d := some 12) (by kernel_rfl) (by kernel_rfl) (p_off Tryd.underlying89 rfl (fun w => ⟨_, Tryd.sizeOf3 w⟩) rfl (by kernel_rfl) H) (fun x12 H => ?_)
  refine lq_y (d := some 13) (by kernel_rfl) (by kernel_rfl) HA (y_ld Tryd.isAgg3 (by kernel_rfl) H) (fun x13 H => ?_)
  refine lq_p (d := some 14) (by kernel_rfl) (by kernel_rfl) (p_mul (by kernel_rfl) (by kernel_rfl) H) (fun x14 H => ?_)
  refine lq_move (x := x1) (by kernel_rfl) (by kernel_rfl) ?_
  refine lq_p (d := some 16) (by kernel_rfl) (by kernel_rfl) (p_add (by kernel_rfl) (by kernel_rfl) H) (fun x16 H => ?_)
  refine lq_fr (b := ⟨#[x0, x1, undef, undef, (.slice none 0 0), x0, x6, x7, x8, x1, x0, x11, x12, x13, x14, x1, x16, undef, undef, undef, undef, undef, undef], []⟩) (by kernel_rfl) ?_
  refine lq_move (x := x0) (by kernel_rfl) (by kernel_rfl) ?_
  refine lq_p (d := some 18) (by kernel_rfl) (by kernel_rfl) (p_nil (by kernel_rfl) H) (fun x18 H => ?_)
  refine lq_p (d := some 19) (by kernel_rfl) (by kernel_rfl) (p_off Tryd.underlying89 rfl (fun w => ⟨_, Tryd.sizeOf3 w⟩) rfl (by kernel_rfl) H) (fun x19 H => ?_)
  refine lq_y (d := some 20) (by kernel_rfl) (by kernel_rfl) HA (y_ld Tryd.isAgg3 (by kernel_rfl) H) (fun x20 H => ?_)
  refine lq_p (d := some 21) (by kernel_rfl) (by kernel_rfl) (p_mul (by kernel_rfl) (by kernel_rfl) H) (fun x21 H => ?_)
  refine lq_p (d := some 22) (by kernel_rfl) (by kernel_rfl) (p_sl Tryd.underlying32 Tryd.sizeOf31 (by kernel_rfl) (by kernel_rfl) (by kernel_rfl) H) (fun x22 H => ?_)
  refine lq_fr (b := ⟨#[x0, x1, undef, undef, (.slice none 0 0), x0, x6, x7, x8, x1, x0, x11, x12, x13, x14, x1, x16, x0, x18, x19, x20, x21, x22], []⟩) (by kernel_rfl) ?_
  refine lq_assign (x := x22) (by kernel_rfl) (by kernel_rfl) ?_
  refine lq_nil ?_
  intro w HA
  refine then_normal ?_
  refine fr_eq (b := ⟨#[x0, x1, undef, undef, x22, x0, x6, x7, x8, x1, x0, x11, x12, x13, x14, x1, x16, x0, x18, x19, x20, x21, x22], []⟩) (by kernel_rfl) ?_
  refine wp_ret ?_
  exact end1 (Tryd.results73) (by kernel_rfl) (by kernel_rfl) HA H _ (.inr rfl)

end Go.Proofs.YtmhhjpfkipficaaDoor

end

section
/- The shallow reading of one function, and that the function does it. Written by a program. -/
set_option linter.unusedVariables false
namespace Go.Proofs.YtmhhjpfkipficaaDoor
open Go Go.HW

def grid_Grid_At_S (x0 x1 x2 : Value) (h : Heap) (R : Value → Heap → Prop) : Prop :=
  sNew h #[.int .i32 0, .int .i64 0, .int .i64 0, .int .i64 0] 31 fun x6 h => 
  grid_Grid_all_c x0 h fun x8 h_1 => 
  rect_In_c x8 x1 x2 h_1 fun x11 h_2 => 
  sNot x11 fun x12 =>
  sIf x12 (sBuild #[.int .i32 0, .int .i64 0, .int .i64 0, .int .i64 0] [] fun x13 =>
  sStN h_2 x6 x13 4 fun h_3 => 
  sLdN h_3 x6 4 fun r6 =>
  R r6 h_3) (grid_Grid_row_c x0 x2 h_2 fun x16 h_4 => 
  sIxS x16 x1 4 fun x18 =>
  sLdN h_4 x18 4 fun x19 =>
  sStN h_4 x6 x19 4 fun h_5 => 
  sLdN h_5 x6 4 fun r6_1 =>
  R r6_1 h_5)
set_option maxRecDepth 100000 in
theorem grid_Grid_At_runs {x0 x1 x2 : Value} {h : Heap} {R : Value → Heap → Prop} (H : grid_Grid_At_S x0 x1 x2 h R) : grid_Grid_At_c x0 x1 x2 h R := by
  unfold grid_Grid_At_S at H
  refine runs_of (b := ⟨#[x0, x1, x2, undef, undef, undef, undef, undef, undef, undef, undef, undef, undef, undef, undef, undef, undef, undef, undef, undef], []⟩) Tryd.call25 Tryd.func25 rfl (by kernel_rfl) (fun w0 HA => ?_)
  refine wp_seq ?_
  refine lwp_list ?_
  refine ls_d (d := some 6) (by kernel_rfl) (by kernel_rfl) HA (d_alloc Tryd.zeroValue31 H) (fun x6 h w H HA => ?_)
  refine ls_nil ?_
  refine then_normal ?_
  refine fr_eq (b := ⟨#[x0, x1, x2, undef, undef, undef, x6, undef, undef, undef, undef, undef, undef, undef, undef, undef, undef, undef, undef, undef], []⟩) (by kernel_rfl) ?_
  refine wp_seq ?_
  refine wp_seq ?_
  refine lwp_list ?_
  refine ls_move (x := x0) (by kernel_rfl) (by kernel_rfl) ?_
  refine ls_d (d := some 8) (by kernel_rfl) (by kernel_rfl) HA (d_call (by kernel_rfl) (by kernel_rfl) H) (fun x8 h_1 w_1 H HA_1 => ?_)
  refine ls_move (x := x1) (by kernel_rfl) (by kernel_rfl) ?_
  refine ls_move (x := x2) (by kernel_rfl) (by kernel_rfl) ?_
  refine ls_d (d := some 11) (by kernel_rfl) (by kernel_rfl) HA_1 (d_call (by kernel_rfl) (by kernel_rfl) H) (fun x11 h_2 w_2 H HA_2 => ?_)
  refine ls_p (d := some 12) (by kernel_rfl) (by kernel_rfl) (p_not (by kernel_rfl) H) (fun x12 H => ?_)
  refine ls_nil ?_
  refine then_normal ?_
  refine fr_eq (b := ⟨#[x0, x1, x2, undef, undef, undef, x6, x0, x8, x1, x2, x11, x12, undef, undef, undef, undef, undef, undef, undef], []⟩) (by kernel_rfl) ?_
  refine wp_if rfl H (fun H => ?_) (fun H => ?_)
  · refine wp_seq ?_
    refine lwp_list ?_
    refine ls_p (d := some 13) (by kernel_rfl) (by kernel_rfl) (p_lit (pl := [(0, 1), (1, 3)]) Tryd.zeroValue31 Tryd.underlying31 ⟨(by kernel_rfl), Tryd.sizeOf21, (by kernel_rfl), Tryd.sizeOf29, trivial⟩ (by kernel_rfl) (by kernel_rfl) H) (fun x13 H => ?_)
    refine ls_d (d := none) (by kernel_rfl) (by kernel_rfl) HA_2 (d_stn Tryd.sizeOf31 (by kernel_rfl) (by kernel_rfl) H) (fun _ h_3 w_3 H HA_3 => ?_)
    refine ls_nil ?_
    refine then_normal ?_
    refine fr_eq (b := ⟨#[x0, x1, x2, undef, undef, undef, x6, x0, x8, x1, x2, x11, x12, x13, undef, undef, undef, undef, undef, undef], []⟩) (by kernel_rfl) ?_
    refine wp_ret ?_
    refine then_ret ?_
    obtain ⟨r6, hr6, H⟩ := ld_n Tryd.isAgg31 Tryd.sizeOf31 H
    exact endR (vs := [r6]) (Tryd.results25) (by kernel_rfl) ⟨⟨_, (by kernel_rfl), hr6⟩, trivial⟩ HA_3 H _ (.inr rfl)
  · refine wp_skip ?_
    refine then_normal ?_
    refine fr_eq (b := ⟨#[x0, x1, x2, undef, undef, undef, x6, x0, x8, x1, x2, x11, x12, undef, undef, undef, undef, undef, undef, undef], []⟩) (by kernel_rfl) ?_
    refine wp_seq ?_
    refine lwp_list ?_
    refine ls_move (x := x0) (by kernel_rfl) (by kernel_rfl) ?_
    refine ls_move (x := x2) (by kernel_rfl) (by kernel_rfl) ?_
    refine ls_d (d := some 16) (by kernel_rfl) (by kernel_rfl) HA_2 (d_call (by kernel_rfl) (by kernel_rfl) H) (fun x16 h_4 w_4 H HA_4 => ?_)
    refine ls_move (x := x1) (by kernel_rfl) (by kernel_rfl) ?_
    refine ls_p (d := some 18) (by kernel_rfl) (by kernel_rfl) (p_ixs Tryd.underlying32 Tryd.sizeOf31 (by kernel_rfl) (by kernel_rfl) H) (fun x18 H => ?_)
    refine ls_y (d := some 19) (by kernel_rfl) (by kernel_rfl) HA_4 (y_ldn Tryd.isAgg31 Tryd.sizeOf31 (by kernel_rfl) H) (fun x19 H => ?_)
    refine ls_fr (b := ⟨#[x0, x1, x2, undef, undef, undef, x6, x0, x8, x1, x2, x11, x12, undef, x0, x2, x16, x1, x18, x19], []⟩) (by kernel_rfl) ?_
    refine ls_d (d := none) (by kernel_rfl) (by kernel_rfl) HA_4 (d_stn Tryd.sizeOf31 (by kernel_rfl) (by kernel_rfl) H) (fun _ h_5 w_5 H HA_5 => ?_)
    refine ls_nil ?_
    refine then_normal ?_
    refine fr_eq (b := ⟨#[x0, x1, x2, undef, undef, undef, x6, x0, x8, x1, x2, x11, x12, undef, x0, x2, x16, x1, x18, x19], []⟩) (by kernel_rfl) ?_
    refine wp_ret ?_
    obtain ⟨r6_1, hr6_1, H⟩ := ld_n Tryd.isAgg31 Tryd.sizeOf31 H
    exact endR (vs := [r6_1]) (Tryd.results25) (by kernel_rfl) ⟨⟨_, (by kernel_rfl), hr6_1⟩, trivial⟩ HA_5 H _ (.inr rfl)

end Go.Proofs.YtmhhjpfkipficaaDoor

end

section
/- The shallow reading of one function, and that the function does it. Written by a program. -/
set_option linter.unusedVariables false
namespace Go.Proofs.YtmhhjpfkipficaaDoor
open Go Go.HW

def grid_Grid_Set_j1 (R : Value → Heap → Prop) (x14 : Value) (h_3 : Heap) : Prop :=
  R x14 h_3
def grid_Grid_Set_S (x0 x1 x2 x3 : Value) (h : Heap) (R : Value → Heap → Prop) : Prop :=
  sBox h x3 31 fun x7 h => 
  grid_Grid_all_c x0 h fun x11 h_1 => 
  rect_In_c x11 x1 x2 h_1 fun x14 h_2 => 
  sIf x14 (∃ C : Heap → Prop, C h_2 ∧ (grid_Grid_row_c x0 x2 h_2 fun x18 h_4 => C h_4 ∧ (
  sLdNC C x7 4 fun x20 =>
  sIxS x18 x1 4 fun x21 =>
  sStN h_4 x21 x20 4 fun h_5 => 
  grid_Grid_Set_j1 R x14 h_5))) (grid_Grid_Set_j1 R x14 h_2)
set_option maxRecDepth 100000 in
theorem grid_Grid_Set_runs {x0 x1 x2 x3 : Value} {h : Heap} {R : Value → Heap → Prop} (H : grid_Grid_Set_S x0 x1 x2 x3 h R) : grid_Grid_Set_c x0 x1 x2 x3 h R := by
  unfold grid_Grid_Set_S at H
  refine runs_of (b := ⟨#[x0, x1, x2, x3, undef, undef, undef, undef, undef, undef, undef, undef, undef, undef, undef, undef, undef, undef, undef, undef, undef, undef, undef], []⟩) Tryd.call33 Tryd.func33 rfl (by kernel_rfl) (fun w0 HA => ?_)
  refine wp_seq ?_
  refine lwp_list ?_
  refine ls_d (d := some 7) (by kernel_rfl) (by kernel_rfl) HA (d_box (by kernel_rfl) H) (fun x7 h w H HA => ?_)
  refine ls_assign (x := (.bool false)) (by kernel_rfl) (by kernel_rfl) ?_
  refine ls_nil ?_
  refine then_normal ?_
  refine fr_eq (b := ⟨#[x0, x1, x2, x3, undef, undef, undef, x7, (.bool false), undef, undef, undef, undef, undef, undef, undef, undef, undef, undef, undef, undef, undef, undef], []⟩) (by kernel_rfl) ?_
  refine wp_seq ?_
  refine lwp_list ?_
  refine ls_move (x := x0) (by kernel_rfl) (by kernel_rfl) ?_
  refine ls_d (d := some 11) (by kernel_rfl) (by kernel_rfl) HA (d_call (by kernel_rfl) (by kernel_rfl) H) (fun x11 h_1 w_1 H HA_1 => ?_)
  refine ls_move (x := x1) (by kernel_rfl) (by kernel_rfl) ?_
  refine ls_move (x := x2) (by kernel_rfl) (by kernel_rfl) ?_
  refine ls_d (d := some 14) (by kernel_rfl) (by kernel_rfl) HA_1 (d_call (by kernel_rfl) (by kernel_rfl) H) (fun x14 h_2 w_2 H HA_2 => ?_)
  refine ls_assign (x := x14) (by kernel_rfl) (by kernel_rfl) ?_
  refine ls_nil ?_
  refine then_normal ?_
  refine fr_eq (b := ⟨#[x0, x1, x2, x3, undef, undef, undef, x7, (.bool false), x14, x0, x11, x1, x2, x14, undef, undef, undef, undef, undef, undef, undef, undef], []⟩) (by kernel_rfl) ?_
  refine wp_seq ?_
  refine wp_seq ?_
  refine lwp_list ?_
  refine ls_move (x := x14) (by kernel_rfl) (by kernel_rfl) ?_
  refine ls_nil ?_
  refine then_normal ?_
  refine fr_eq (b := ⟨#[x0, x1, x2, x3, undef, undef, undef, x7, (.bool false), x14, x0, x11, x1, x2, x14, x14, undef, undef, undef, undef, undef, undef, undef], []⟩) (by kernel_rfl) ?_
  refine wp_join (fun a w => ∃ (D : Nat → Value) (h_3 : Heap), a = ⟨#[x0, x1, x2, x3, undef, undef, undef, x7, (.bool false), x14, x0, x11, x1, x2, x14, x14, (D 0), (D 1), (D 2), (D 3), (D 4), (D 5), undef], []⟩ ∧ At w0 w h_3 ∧ grid_Grid_Set_j1 R x14 h_3) ?_ ?_
  · refine wp_if rfl H (fun H => ?_) (fun H => ?_)
    · obtain ⟨C, HC, H⟩ := H
      refine lwp_mx (Nat.testBit 68) (Nat.testBit 4) (Nat.testBit 43) [0, 0, 3, 0, 0, 31, 63] (Nat.testBit 0) C [0, 1, 2, 3, 4, 5, 6] (by kernel_rfl) (by kernel_rfl) (by kernel_rfl) (by kernel_rfl) HA_2 HC ?_
      intro w_4 HA_4
      refine lm_al (x := x0) (d := some 16) (by kernel_rfl) rfl (by kernel_rfl) (by kernel_rfl) (al_move (by kernel_rfl)) ?_
      refine lm_al (x := x2) (d := some 17) (by kernel_rfl) rfl (by kernel_rfl) (by kernel_rfl) (al_move (by kernel_rfl)) ?_
      refine lm_dc (d := some 18) (by kernel_rfl) rfl (by kernel_rfl) (by kernel_rfl) (by kernel_rfl) HA_4 (d_call (by kernel_rfl) (by kernel_rfl) H) (fun x18 h_4 w_5 H HA_5 => ?_)
      refine lm_al (x := x1) (d := some 19) (by kernel_rfl) rfl (by kernel_rfl) (by kernel_rfl) (al_move (by kernel_rfl)) ?_
      refine lm_f (d := some 20) (by kernel_rfl) rfl (by kernel_rfl) (by kernel_rfl) (by kernel_rfl) (by kernel_rfl) (c_ldn Tryd.isAgg31 Tryd.sizeOf31 (by kernel_rfl) H) (fun x20 H => ?_)
      refine lm_p (d := some 21) (by kernel_rfl) rfl (by kernel_rfl) (by kernel_rfl) (p_ixs Tryd.underlying32 Tryd.sizeOf31 (by kernel_rfl) (by kernel_rfl) H) (fun x21 H => ?_)
      refine lm_fr (b := ⟨#[x0, x1, x2, x3, undef, undef, undef, x7, (.bool false), x14, x0, x11, x1, x2, x14, x14, x0, x2, x18, x1, x20, x21, undef], []⟩) (by kernel_rfl) ?_
      refine lm_d (d := none) (by kernel_rfl) rfl (by kernel_rfl) (by kernel_rfl) (by kernel_rfl) HA_5 (d_stn Tryd.sizeOf31 (by kernel_rfl) (by kernel_rfl) H) (fun _ h_5 w_6 H HA_6 => ?_)
      refine lm_nil ?_
      exact ⟨(fun i => ([x0, x2, x18, x1, x20, x21]).getD i undef), h_5, by kernel_rfl, HA_6, H⟩
    · refine wp_skip ?_
      exact ⟨(fun i => ([undef, undef, undef, undef, undef, undef]).getD i undef), h_2, by kernel_rfl, HA_2, H⟩
  · rintro _ w_3 ⟨D, h_3, rfl, HA_3, H⟩
    unfold grid_Grid_Set_j1 at H
    refine then_normal ?_
    refine fr_eq (b := ⟨#[x0, x1, x2, x3, undef, undef, undef, x7, (.bool false), x14, x0, x11, x1, x2, x14, x14, (D 0), (D 1), (D 2), (D 3), (D 4), (D 5), undef], []⟩) (by kernel_rfl) ?_
    refine wp_seq ?_
    refine lwp_list ?_
    refine ls_move (x := x14) (by kernel_rfl) (by kernel_rfl) ?_
    refine ls_assign (x := x14) (by kernel_rfl) (by kernel_rfl) ?_
    refine ls_nil ?_
    refine then_normal ?_
    refine fr_eq (b := ⟨#[x0, x1, x2, x3, undef, undef, undef, x7, x14, x14, x0, x11, x1, x2, x14, x14, (D 0), (D 1), (D 2), (D 3), (D 4), (D 5), x14], []⟩) (by kernel_rfl) ?_
    refine wp_ret ?_
    exact end1 (Tryd.results33) (by kernel_rfl) (by kernel_rfl) HA_3 H _ (.inr rfl)

end Go.Proofs.YtmhhjpfkipficaaDoor

end

section
/- The shallow reading of one function, and that the function does it. Written by a program. -/
set_option linter.unusedVariables false
namespace Go.Proofs.YtmhhjpfkipficaaDoor
open Go Go.HW

def grid_Grid_Clone_S (x0 : Value) (h : Heap) (R : Value → Heap → Prop) : Prop :=
  ∃ C : Heap → Prop, C h ∧ (sNil x0 fun x4 =>
  sOff x4 0 fun x5 =>
  sLdC C x5 fun x6 =>
  sNil x0 fun x8 =>
  sOff x8 1 fun x9 =>
  sLdC C x9 fun x10 =>
  sNil x0 fun x12 =>
  sOff x12 2 fun x13 =>
  sLd h x13 fun x14 =>
  slices_Clone_api_Cell_api_Cell_c x14 h fun x15 h => C h ∧ (
  sBuild #[.int .i64 0, .int .i64 0, .slice none 0 0] [(0, 1, x6), (1, 1, x10), (2, 1, x15)] fun x16 =>
  sBox h x16 89 fun x17 h_1 => 
  R x17 h_1))
set_option maxRecDepth 100000 in
theorem grid_Grid_Clone_runs {x0 : Value} {h : Heap} {R : Value → Heap → Prop} (H : grid_Grid_Clone_S x0 h R) : grid_Grid_Clone_c x0 h R := by
  unfold grid_Grid_Clone_S at H
  refine runs_of (b := ⟨#[x0, undef, undef, undef, undef, undef, undef, undef, undef, undef, undef, undef, undef, undef, undef, undef, undef, undef], []⟩) Tryd.call68 Tryd.func68 rfl (by kernel_rfl) (fun w0 HA => ?_)
  refine wp_seq ?_
  refine lwp_list ?_
  refine ls_assign (x := (.pointer none)) (by kernel_rfl) (by kernel_rfl) ?_
  refine ls_nil ?_
  refine then_normal ?_
  refine fr_eq (b := ⟨#[x0, undef, (.pointer none), undef, undef, undef, undef, undef, undef, undef, undef, undef, undef, undef, undef, undef, undef, undef], []⟩) (by kernel_rfl) ?_
  refine wp_seq ?_
  obtain ⟨C, HC, H⟩ := H
  refine lwp_mx (Nat.testBit 20480) (Nat.testBit 4096) (Nat.testBit 42871) [0, 1, 3, 7, 0, 16, 48, 112, 0, 256, 768, 1792, 3840, 8191, 16383, 32767] (Nat.testBit 2048) C [0, 1, 2, 3, 4, 5, 6, 7, 8, 9, 10, 11, 12, 13, 14, 15] (by kernel_rfl) (by kernel_rfl) (by kernel_rfl) (by kernel_rfl) HA HC ?_
  intro w HA
  refine lm_al (x := x0) (d := some 3) (by kernel_rfl) rfl (by kernel_rfl) (by kernel_rfl) (al_move (by kernel_rfl)) ?_
  refine lm_p (d := some 4) (by kernel_rfl) rfl (by kernel_rfl) (by kernel_rfl) (p_nil (by kernel_rfl) H) (fun x4 H => ?_)
  refine lm_p (d := some 5) (by kernel_rfl) rfl (by kernel_rfl) (by kernel_rfl) (p_off Tryd.underlying89 rfl (fun w => ⟨_, Tryd.sizeOf3 w⟩) rfl (by kernel_rfl) H) (fun x5 H => ?_)
  refine lm_f (d := some 6) (by kernel_rfl) rfl (by kernel_rfl) (by kernel_rfl) (by kernel_rfl) (by kernel_rfl) (c_ld Tryd.isAgg3 (by kernel_rfl) H) (fun x6 H => ?_)
  refine lm_al (x := x0) (d := some 7) (by kernel_rfl) rfl (by kernel_rfl) (by kernel_rfl) (al_move (by kernel_rfl)) ?_
  refine lm_p (d := some 8) (by kernel_rfl) rfl (by kernel_rfl) (by kernel_rfl) (p_nil (by kernel_rfl) H) (fun x8 H => ?_)
  refine lm_fr (b := ⟨#[x0, undef, (.pointer none), x0, x4, x5, x6, x0, x8, undef, undef, undef, undef, undef, undef, undef, undef, undef], []⟩) (by kernel_rfl) ?_
  refine lm_p (d := some 9) (by kernel_rfl) rfl (by kernel_rfl) (by kernel_rfl) (p_off Tryd.underlying89 rfl (fun w => ⟨_, Tryd.sizeOf3 w⟩) rfl (by kernel_rfl) H) (fun x9 H => ?_)
  refine lm_f (d := some 10) (by kernel_rfl) rfl (by kernel_rfl) (by kernel_rfl) (by kernel_rfl) (by kernel_rfl) (c_ld Tryd.isAgg3 (by kernel_rfl) H) (fun x10 H => ?_)
  refine lm_al (x := x0) (d := some 11) (by kernel_rfl) rfl (by kernel_rfl) (by kernel_rfl) (al_move (by kernel_rfl)) ?_
  refine lm_p (d := some 12) (by kernel_rfl) rfl (by kernel_rfl) (by kernel_rfl) (p_nil (by kernel_rfl) H) (fun x12 H => ?_)
  refine lm_p (d := some 13) (by kernel_rfl) rfl (by kernel_rfl) (by kernel_rfl) (p_off Tryd.underlying89 rfl (fun w => ⟨_, Tryd.sizeOf32 w⟩) rfl (by kernel_rfl) H) (fun x13 H => ?_)
  refine lm_b (d := some 14) (by kernel_rfl) rfl (by kernel_rfl) (by kernel_rfl) (by kernel_rfl) (by kernel_rfl) (y_ld Tryd.isAgg32 (by kernel_rfl) H) (fun x14 H => ?_)
  refine lm_fr (b := ⟨#[x0, undef, (.pointer none), x0, x4, x5, x6, x0, x8, x9, x10, x0, x12, x13, x14, undef, undef, undef], []⟩) (by kernel_rfl) ?_
  refine lm_dc (d := some 15) (by kernel_rfl) rfl (by kernel_rfl) (by kernel_rfl) (by kernel_rfl) HA (d_call (by kernel_rfl) (by kernel_rfl) H) (fun x15 h w_1 H HA_1 => ?_)
  refine lm_p (d := some 16) (by kernel_rfl) rfl (by kernel_rfl) (by kernel_rfl) (p_lit (pl := [(0, 1), (1, 1), (2, 1)]) Tryd.zeroValue89 Tryd.underlying89 ⟨(by kernel_rfl), Tryd.sizeOf3, (by kernel_rfl), Tryd.sizeOf3, (by kernel_rfl), Tryd.sizeOf32, trivial⟩ (by kernel_rfl) (by kernel_rfl) H) (fun x16 H => ?_)
  refine lm_d (d := some 17) (by kernel_rfl) rfl (by kernel_rfl) (by kernel_rfl) (by kernel_rfl) HA_1 (d_box (by kernel_rfl) H) (fun x17 h_1 w_2 H HA_2 => ?_)
  refine lm_al (x := x17) (d := some 2) (by kernel_rfl) rfl (by kernel_rfl) (by kernel_rfl) (al_assign (by kernel_rfl)) ?_
  refine lm_nil ?_
  refine then_normal ?_
  refine fr_eq (b := ⟨#[x0, undef, x17, x0, x4, x5, x6, x0, x8, x9, x10, x0, x12, x13, x14, x15, x16, x17], []⟩) (by kernel_rfl) ?_
  refine wp_ret ?_
  exact end1 (Tryd.results68) (by kernel_rfl) (by kernel_rfl) HA_2 H _ (.inr rfl)

end Go.Proofs.YtmhhjpfkipficaaDoor

end

section
/- The shallow reading of one function, and that the function does it. Written by a program. -/
set_option linter.unusedVariables false
namespace Go.Proofs.YtmhhjpfkipficaaDoor
open Go Go.HW

def grid_New_S (x0 x1 : Value) (h : Heap) (R : Value → Heap → Prop) : Prop :=
  sLt x0 (.int .i64 1) fun x6 =>
  sOr x6 (fun k_2 =>
  sGt x0 (.int .i64 512) fun x9 =>
  k_2 x9) fun x10 =>
  sOr x10 (fun k_1 =>
  sLt x1 (.int .i64 1) fun x13 =>
  k_1 x13) fun x14 =>
  sOr x14 (fun k =>
  sGt x1 (.int .i64 512) fun x17 =>
  k x17) fun x18 =>
  sIf x18 (R (.pointer none) h) (sMul .i64 x0 x1 fun x23 =>
  sMk h x23 x23 #[.int .i32 0, .int .i64 0, .int .i64 0, .int .i64 0] 31 32 fun x24 h => 
  sBuild #[.int .i64 0, .int .i64 0, .slice none 0 0] [(0, 1, x0), (1, 1, x1), (2, 1, x24)] fun x25 =>
  sBox h x25 89 fun x26 h_1 => 
  R x26 h_1)
set_option maxRecDepth 100000 in
theorem grid_New_runs {x0 x1 : Value} {h : Heap} {R : Value → Heap → Prop} (H : grid_New_S x0 x1 h R) : grid_New_c x0 x1 h R := by
  unfold grid_New_S at H
  refine runs_of (b := ⟨#[x0, x1, undef, undef, undef, undef, undef, undef, undef, undef, undef, undef, undef, undef, undef, undef, undef, undef, undef, undef, undef, undef, undef, undef, undef, undef, undef], []⟩) Tryd.call27 Tryd.func27 rfl (by kernel_rfl) (fun w0 HA => ?_)
  refine wp_seq ?_
  refine lwp_list ?_
  refine ls_assign (x := (.pointer none)) (by kernel_rfl) (by kernel_rfl) ?_
  refine ls_nil ?_
  refine then_normal ?_
  refine fr_eq (b := ⟨#[x0, x1, undef, undef, (.pointer none), undef, undef, undef, undef, undef, undef, undef, undef, undef, undef, undef, undef, undef, undef, undef, undef, undef, undef, undef, undef, undef, undef], []⟩) (by kernel_rfl) ?_
  refine wp_seq ?_
  refine wp_seq ?_
  refine lwp_list ?_
  refine ls_move (x := x0) (by kernel_rfl) (by kernel_rfl) ?_
  refine ls_p (d := some 6) (by kernel_rfl) (by kernel_rfl) (p_sLt (by kernel_rfl) (by kernel_rfl) H) (fun x6 H => ?_)
  refine ls_move (x := x6) (by kernel_rfl) (by kernel_rfl) ?_
  refine ls_or [(), (), ()] (fun K a w => ∃ (D : Nat → Value) (x10 : Value), a = ⟨#[x0, x1, undef, undef, (.pointer none), x0, x6, x6, (D 0), (D 1), x10, undef, undef, undef, undef, undef, undef, undef, undef, undef, undef, undef, undef, undef, undef, undef, undef], []⟩ ∧ At w0 w h ∧ K x10) H (fun hb_2 H => ?_) (fun hb_2 H => ?_) ?_
  · refine ls_move (x := x0) (by rw [hb_2]; kernel_rfl) (by kernel_rfl) ?_
    refine ls_p (d := some 9) (by kernel_rfl) (by rw [hb_2]; kernel_rfl) (p_sGt (by kernel_rfl) (by kernel_rfl) H) (fun x9 H => ?_)
    refine ls_pick_f (y := x9) (by kernel_rfl) (by rw [hb_2]; kernel_rfl) (by kernel_rfl) ?_
    refine ls_nil ?_
    refine then_normal ?_
    exact ⟨(fun i => ([x0, x9]).getD i undef), x9, by kernel_rfl, HA, H⟩
  · refine ls_skip (d := some 8) (by kernel_rfl) (by rw [hb_2]; kernel_rfl) ?_
    refine ls_skip (d := some 9) (by kernel_rfl) (by rw [hb_2]; kernel_rfl) ?_
    refine ls_pick_t (x := (.bool true)) (by kernel_rfl) (by rw [hb_2]; kernel_rfl) (by kernel_rfl) ?_
    refine ls_nil ?_
    refine then_normal ?_
    exact ⟨(fun i => ([undef, undef]).getD i undef), (.bool true), by kernel_rfl, HA, H⟩
  · rintro _ w ⟨D, x10, rfl, HA, H⟩
    refine ls_move (x := x10) (by kernel_rfl) (by kernel_rfl) ?_
    refine ls_or [(), (), ()] (fun K a w => ∃ (D_1 : Nat → Value) (x14 : Value), a = ⟨#[x0, x1, undef, undef, (.pointer none), x0, x6, x6, (D 0), (D 1), x10, x10, (D_1 0), (D_1 1), x14, undef, undef, undef, undef, undef, undef, undef, undef, undef, undef, undef, undef], []⟩ ∧ At w0 w h ∧ K x14) H (fun hb_1 H => ?_) (fun hb_1 H => ?_) ?_
    · refine ls_move (x := x1) (by rw [hb_1]; kernel_rfl) (by kernel_rfl) ?_
      refine ls_p (d := some 13) (by kernel_rfl) (by rw [hb_1]; kernel_rfl) (p_sLt (by kernel_rfl) (by kernel_rfl) H) (fun x13 H => ?_)
      refine ls_pick_f (y := x13) (by kernel_rfl) (by rw [hb_1]; kernel_rfl) (by kernel_rfl) ?_
      refine ls_nil ?_
      refine then_normal ?_
      exact ⟨(fun i => ([x1, x13]).getD i undef), x13, by kernel_rfl, HA, H⟩
    · refine ls_skip (d := some 12) (by kernel_rfl) (by rw [hb_1]; kernel_rfl) ?_
      refine ls_skip (d := some 13) (by kernel_rfl) (by rw [hb_1]; kernel_rfl) ?_
      refine ls_pick_t (x := (.bool true)) (by kernel_rfl) (by rw [hb_1]; kernel_rfl) (by kernel_rfl) ?_
      refine ls_nil ?_
      refine then_normal ?_
      exact ⟨(fun i => ([undef, undef]).getD i undef), (.bool true), by kernel_rfl, HA, H⟩
    · rintro _ w_1 ⟨D_1, x14, rfl, HA_1, H⟩
      refine ls_move (x := x14) (by kernel_rfl) (by kernel_rfl) ?_
      refine ls_or [(), (), ()] (fun K a w => ∃ (D_2 : Nat → Value) (x18 : Value), a = ⟨#[x0, x1, undef, undef, (.pointer none), x0, x6, x6, (D 0), (D 1), x10, x10, (D_1 0), (D_1 1), x14, x14, (D_2 0), (D_2 1), x18, undef, undef, undef, undef, undef, undef, undef, undef], []⟩ ∧ At w0 w h ∧ K x18) H (fun hb H => ?_) (fun hb H => ?_) ?_
      · refine ls_move (x := x1) (by rw [hb]; kernel_rfl) (by kernel_rfl) ?_
        refine ls_p (d := some 17) (by kernel_rfl) (by rw [hb]; kernel_rfl) (p_sGt (by kernel_rfl) (by kernel_rfl) H) (fun x17 H => ?_)
        refine ls_pick_f (y := x17) (by kernel_rfl) (by rw [hb]; kernel_rfl) (by kernel_rfl) ?_
        refine ls_nil ?_
        refine then_normal ?_
        exact ⟨(fun i => ([x1, x17]).getD i undef), x17, by kernel_rfl, HA_1, H⟩
      · refine ls_skip (d := some 16) (by kernel_rfl) (by rw [hb]; kernel_rfl) ?_
        refine ls_skip (d := some 17) (by kernel_rfl) (by rw [hb]; kernel_rfl) ?_
        refine ls_pick_t (x := (.bool true)) (by kernel_rfl) (by rw [hb]; kernel_rfl) (by kernel_rfl) ?_
        refine ls_nil ?_
        refine then_normal ?_
        exact ⟨(fun i => ([undef, undef]).getD i undef), (.bool true), by kernel_rfl, HA_1, H⟩
      · rintro _ w_2 ⟨D_2, x18, rfl, HA_2, H⟩
        refine ls_nil ?_
        refine then_normal ?_
        refine fr_eq (b := ⟨#[x0, x1, undef, undef, (.pointer none), x0, x6, x6, (D 0), (D 1), x10, x10, (D_1 0), (D_1 1), x14, x14, (D_2 0), (D_2 1), x18, undef, undef, undef, undef, undef, undef, undef, undef], []⟩) (by kernel_rfl) ?_
        refine wp_if rfl H (fun H => ?_) (fun H => ?_)
        · refine wp_seq ?_
          refine lwp_list ?_
          refine ls_assign (x := (.pointer none)) (by kernel_rfl) (by kernel_rfl) ?_
          refine ls_nil ?_
          refine then_normal ?_
          refine fr_eq (b := ⟨#[x0, x1, undef, undef, (.pointer none), x0, x6, x6, (D 0), (D 1), x10, x10, (D_1 0), (D_1 1), x14, x14, (D_2 0), (D_2 1), x18, undef, undef, undef, undef, undef, undef, undef, undef], []⟩) (by kernel_rfl) ?_
          refine wp_ret ?_
          refine then_ret ?_
          exact end1 (Tryd.results27) (by kernel_rfl) (by kernel_rfl) HA_2 H _ (.inr rfl)
        · refine wp_skip ?_
          refine then_normal ?_
          refine fr_eq (b := ⟨#[x0, x1, undef, undef, (.pointer none), x0, x6, x6, (D 0), (D 1), x10, x10, (D_1 0), (D_1 1), x14, x14, (D_2 0), (D_2 1), x18, undef, undef, undef, undef, undef, undef, undef, undef], []⟩) (by kernel_rfl) ?_
          refine wp_seq ?_
          refine lwp_list ?_
          refine ls_move (x := x0) (by kernel_rfl) (by kernel_rfl) ?_
          refine ls_move (x := x1) (by kernel_rfl) (by kernel_rfl) ?_
          refine ls_move (x := x0) (by kernel_rfl) (by kernel_rfl) ?_
          refine ls_move (x := x1) (by kernel_rfl) (by kernel_rfl) ?_
          refine ls_p (d := some 23) (by kernel_rfl) (by kernel_rfl) (p_mul (by kernel_rfl) (by kernel_rfl) H) (fun x23 H => ?_)
          refine ls_d (d := some 24) (by kernel_rfl) (by kernel_rfl) HA_2 (d_mk (z := #[.int .i32 0, .int .i64 0, .int .i64 0, .int .i64 0]) Tryd.underlying32 Tryd.typeInfo31 Tryd.sizeOf31 Tryd.zeroValue31 (by kernel_rfl) (by kernel_rfl) H) (fun x24 h w_3 H HA_3 => ?_)
          refine ls_fr (b := ⟨#[x0, x1, undef, undef, (.pointer none), x0, x6, x6, (D 0), (D 1), x10, x10, (D_1 0), (D_1 1), x14, x14, (D_2 0), (D_2 1), x18, x0, x1, x0, x1, x23, x24, undef, undef], []⟩) (by kernel_rfl) ?_
          refine ls_p (d := some 25) (by kernel_rfl) (by kernel_rfl) (p_lit (pl := [(0, 1), (1, 1), (2, 1)]) Tryd.zeroValue89 Tryd.underlying89 ⟨(by kernel_rfl), Tryd.sizeOf3, (by kernel_rfl), Tryd.sizeOf3, (by kernel_rfl), Tryd.sizeOf32, trivial⟩ (by kernel_rfl) (by kernel_rfl) H) (fun x25 H => ?_)
          refine ls_d (d := some 26) (by kernel_rfl) (by kernel_rfl) HA_3 (d_box (by kernel_rfl) H) (fun x26 h_1 w_4 H HA_4 => ?_)
          refine ls_assign (x := x26) (by kernel_rfl) (by kernel_rfl) ?_
          refine ls_nil ?_
          refine then_normal ?_
          refine fr_eq (b := ⟨#[x0, x1, undef, undef, x26, x0, x6, x6, (D 0), (D 1), x10, x10, (D_1 0), (D_1 1), x14, x14, (D_2 0), (D_2 1), x18, x0, x1, x0, x1, x23, x24, x25, x26], []⟩) (by kernel_rfl) ?_
          refine wp_ret ?_
          exact end1 (Tryd.results27) (by kernel_rfl) (by kernel_rfl) HA_4 H _ (.inr rfl)

end Go.Proofs.YtmhhjpfkipficaaDoor

end

section
/- The shallow reading of one function, and that the function does it. Written by a program. -/
set_option linter.unusedVariables false
namespace Go.Proofs.YtmhhjpfkipficaaDoor
open Go Go.HW

def slices_Clone_api_Cell_api_Cell_S (x0 : Value) (h : Heap) (R : Value → Heap → Prop) : Prop :=
  sEqlNilS x0 fun x4 =>
  sIf x4 (R (.slice none 0 0) h) (sSlit h #[] [] 31 0 fun x5 h => 
  sApp h x5 x0 #[.int .i32 0, .int .i64 0, .int .i64 0, .int .i64 0] 31 32 fun x7 h_1 => 
  R x7 h_1)
set_option maxRecDepth 100000 in
theorem slices_Clone_api_Cell_api_Cell_runs {x0 : Value} {h : Heap} {R : Value → Heap → Prop} (H : slices_Clone_api_Cell_api_Cell_S x0 h R) : slices_Clone_api_Cell_api_Cell_c x0 h R := by
  unfold slices_Clone_api_Cell_api_Cell_S at H
  refine runs_of (b := ⟨#[x0, undef, undef, undef, undef, undef, undef, undef], []⟩) Tryd.call90 Tryd.func90 rfl (by kernel_rfl) (fun w0 HA => ?_)
  refine wp_seq ?_
  refine lwp_list ?_
  refine ls_assign (x := (.slice none 0 0)) (by kernel_rfl) (by kernel_rfl) ?_
  refine ls_nil ?_
  refine then_normal ?_
  refine fr_eq (b := ⟨#[x0, undef, (.slice none 0 0), undef, undef, undef, undef, undef], []⟩) (by kernel_rfl) ?_
  refine wp_seq ?_
  refine wp_seq ?_
  refine lwp_list ?_
  refine ls_move (x := x0) (by kernel_rfl) (by kernel_rfl) ?_
  refine ls_p (d := some 4) (by kernel_rfl) (by kernel_rfl) (p_eqlNilS Tryd.underlying32 (by kernel_rfl) (by kernel_rfl) H) (fun x4 H => ?_)
  refine ls_nil ?_
  refine then_normal ?_
  refine fr_eq (b := ⟨#[x0, undef, (.slice none 0 0), x0, x4, undef, undef, undef], []⟩) (by kernel_rfl) ?_
  refine wp_if rfl H (fun H => ?_) (fun H => ?_)
  · refine wp_seq ?_
    refine lwp_list ?_
    refine ls_assign (x := (.slice none 0 0)) (by kernel_rfl) (by kernel_rfl) ?_
    refine ls_nil ?_
    refine then_normal ?_
    refine fr_eq (b := ⟨#[x0, undef, (.slice none 0 0), x0, x4, undef, undef, undef], []⟩) (by kernel_rfl) ?_
    refine wp_ret ?_
    refine then_ret ?_
    exact end1 (Tryd.results90) (by kernel_rfl) (by kernel_rfl) HA H _ (.inr rfl)
  · refine wp_skip ?_
    refine then_normal ?_
    refine fr_eq (b := ⟨#[x0, undef, (.slice none 0 0), x0, x4, undef, undef, undef], []⟩) (by kernel_rfl) ?_
    refine wp_seq ?_
    refine lwp_list ?_
    refine ls_d (d := some 5) (by kernel_rfl) (by kernel_rfl) HA (d_slit (zc := #[]) Tryd.underlying32 Tryd.sizeOf31 (by decide) (.inl ⟨(by kernel_rfl), (by kernel_rfl)⟩) (by kernel_rfl) (by kernel_rfl) H) (fun x5 h w H HA => ?_)
    refine ls_move (x := x0) (by kernel_rfl) (by kernel_rfl) ?_
    refine ls_d (d := some 7) (by kernel_rfl) (by kernel_rfl) HA (d_app (z := #[.int .i32 0, .int .i64 0, .int .i64 0, .int .i64 0]) Tryd.underlying32 Tryd.underlying32 (.inl ⟨_, rfl⟩) Tryd.typeInfo31 (by kernel_rfl) Tryd.sizeOf31 Tryd.zeroValue31 (by kernel_rfl) (by kernel_rfl) (by kernel_rfl) H) (fun x7 h_1 w_1 H HA_1 => ?_)
    refine ls_assign (x := x7) (by kernel_rfl) (by kernel_rfl) ?_
    refine ls_nil ?_
    refine then_normal ?_
    refine fr_eq (b := ⟨#[x0, undef, x7, x0, x4, x5, x0, x7], []⟩) (by kernel_rfl) ?_
    refine wp_ret ?_
    exact end1 (Tryd.results90) (by kernel_rfl) (by kernel_rfl) HA_1 H _ (.inr rfl)

end Go.Proofs.YtmhhjpfkipficaaDoor

end

section
/- Grids: cells in rows. -/
set_option linter.unusedSimpArgs false
set_option linter.unusedVariables false
namespace Go.Proofs.YtmhhjpfkipficaaDoor
open Go Go.HW

/-- A cell. -/
structure Ce where
  r : Int
  f : Int
  b : Int
  g : Int
def ce0 : Ce := ⟨0, 0, 0, 0⟩
def encCe (c : Ce) : List Value := [.int .i32 c.r, .int .i64 c.f, .int .i64 c.b, .int .i64 c.g]
def Ce.a (c : Ce) : Array Value := #[.int .i32 c.r, .int .i64 c.f, .int .i64 c.b, .int .i64 c.g]
theorem ce_enc (c : Ce) : (encCe c).toArray = c.a := rfl
theorem encCe_len (c : Ce) : (encCe c).length = 4 := rfl
theorem encCe_cell (c : Ce) : ∀ u ∈ encCe c, Cell1 u := by intro u hu; simp [encCe] at hu; rcases hu with rfl | rfl | rfl | rfl <;> trivial
theorem ce_cell (c : Ce) : ∀ u ∈ c.a.toList, Cell1 u := encCe_cell c
theorem ce_ok (c : Ce) : okC [some .i32, some .i64, some .i64, some .i64] c.a.toList := by simp [Ce.a, okC]
theorem eqVs_selfG : ∀ {ks : List (Option IntKind)} {l : List Value}, okC ks l → eqVs l l = true
  | [], [], _ => rfl
  | some k :: ks, .int _ a :: l, h => by simp [eqVs, eqV, eqVs_selfG h.2]
  | none :: ks, .bool a :: l, h => by simp [eqVs, eqV, eqVs_selfG (ks := ks) h]
def grd (w h : Int) (v : Value) : Array Value := #[.int .i64 w, .int .i64 h, v]
def inG (w h x y : Int) : Bool := decide (0 ≤ x) && decide (x < w) && (decide (0 ≤ y) && decide (y < h))
theorem inG_iff {w h x y : Int} : inG w h x y = true ↔ (0 ≤ x ∧ x < w) ∧ (0 ≤ y ∧ y < h) := by simp [inG]
def cell (l : List Ce) (w h x y : Int) : Ce := if inG w h x y = true then l.getD (y * w + x).toNat ce0 else ce0
/-- A right size. -/
def szOk (w h : Int) (l : List Ce) : Prop := 1 ≤ w ∧ w ≤ 512 ∧ 1 ≤ h ∧ h ≤ 512 ∧ (l.length : Int) = w * h
theorem mul_nat {x y : Int} (hx : 0 ≤ x) (hy : 0 ≤ y) : 0 ≤ x * y := Int.mul_nonneg hx hy
theorem sz_mul {w h y : Int} (hw : 1 ≤ w ∧ w ≤ 512) (hh : h ≤ 512) (hy : 0 ≤ y ∧ y < h) : 0 ≤ y * w ∧ y * w + w ≤ h * w ∧ h * w ≤ 262144 ∧ (y + 1) * w = y * w + w := by
  have h1 : (y + 1) * w = y * w + w := by rw [Int.add_mul, Int.one_mul]
  have h2 : (y + 1) * w ≤ h * w := Int.mul_le_mul_of_nonneg_right (by omega) (by omega)
  have h3 : h * w ≤ 512 * w := Int.mul_le_mul_of_nonneg_right hh (by omega)
  exact ⟨Int.mul_nonneg hy.1 (by omega), by omega, by omega, h1⟩

section
variable {h0 h : Heap} {F : List HP} {R : Value → Heap → Prop}
def i64 (n : Int) : Prop := -9223372036854775808 ≤ n ∧ n ≤ 9223372036854775807
theorem within_spec {n m : Int} (hn : i64 n) (hm : i64 m) (H : R (.bool (decide (0 ≤ n) && decide (n < m))) h) : rect_within_c (.int .i64 n) (.int .i64 0) (.int .i64 m) h R := by
  apply rect_within_runs
  unfold rect_within_S
  simp only [ev_gt, ev_ge, ev_conv, ev_sub, ev_lt, ev_and_p, wrap_u64]
  have e : (decide (m > 0) && decide (n ≥ 0) && decide ((n % 18446744073709551616 - 0 % 18446744073709551616) % 18446744073709551616 < m % 18446744073709551616)) = (decide (0 ≤ n) && decide (n < m)) := by
    unfold i64 at hn hm
    rw [Bool.eq_iff_iff]
    simp only [Bool.and_eq_true, decide_eq_true_eq]
    omega
  rw [e]
  exact H
def allC (w h : Int) : Array Value := #[.int .i64 0, .int .i64 0, .int .i64 w, .int .i64 h]
theorem allC_cell (w h : Int) : ∀ u ∈ (allC w h).toList, Cell1 u := by intro u hu; simp [allC] at hu; rcases hu with rfl | rfl | rfl <;> trivial
theorem rin_spec {w g x y : Int} (hw : i64 w) (hg : i64 g) (hx : i64 x) (hy : i64 y) (H : ∀ h', Ext h h' → R (.bool (inG w g x y)) h') : rect_In_c (.agg (allC w g)) (.int .i64 x) (.int .i64 y) h R := by
  apply rect_In_runs
  unfold rect_In_S
  refine (HW.Sep.start h).box (c := allC w g) rfl (fun b h1 s1 => ?_)
  have f0 : ∀ {K : Value → Prop}, sLd h1 (ptr b 0) K = K (.int .i64 0) := s1.ld rfl
  have f1 : ∀ {K : Value → Prop}, sLd h1 (ptr b 1) K = K (.int .i64 0) := s1.ld rfl
  have f2 : ∀ {K : Value → Prop}, sLd h1 (ptr b 2) K = K (.int .i64 w) := s1.ld rfl
  have f3 : ∀ {K : Value → Prop}, sLd h1 (ptr b 3) K = K (.int .i64 g) := s1.ld rfl
  simp only [ev_off, Nat.zero_add, f0, f2]
  refine within_spec hx hw ?_
  refine and_ext (fun _ K' HK => by
    rw [f1, f3]
    exact within_spec hy hg (HK _ (Ext.refl _))) (fun h2 e2 => ?_)
  exact H _ (s1.ext.trans e2)
variable {b : Nat} {w g : Int} {v : Value} {l : List Ce}
theorem all_spec (s : HW.Sep h0 (Blk b (grd w g v) 89 :: F) h) (H : ∀ h', Ext h h' → R (.agg (allC w g)) h') : grid_Grid_all_c (ptr b 0) h R := by
  apply grid_Grid_all_runs
  unfold grid_Grid_all_S
  refine (HW.Sep.start h).new (fun k h1 s1 => ?_)
  have f0 : ∀ {K : Value → Prop}, sLd h1 (ptr b 0) K = K (.int .i64 w) := (s.ext' s1.ext).ld rfl
  have f1 : ∀ {K : Value → Prop}, sLd h1 (ptr b 1) K = K (.int .i64 g) := (s.ext' s1.ext).ld rfl
  simp only [ev_nil, ev_off, Nat.zero_add, f0, f1]
  refine build_intro (cs := allC w g) ⟨rfl, Nat.le_of_ble_eq_true rfl, rfl, Nat.le_of_ble_eq_true rfl, rfl⟩ ?_
  refine s1.stall (cs := allC w g) rfl rfl (allC_cell _ _) (fun h2 s2 => ?_)
  rw [s2.ldall (n := 4) rfl]
  exact H h2 s2.ext
theorem row_spec {y : Int} (s : HW.Sep h0 (Blk b (grd w g v) 89 :: Sl encCe 4 v l :: F) h) (z : szOk w g l) (hy : 0 ≤ y ∧ y < g) (H : R (HW.cutP v (y * w).toNat ((y + 1) * w).toNat 4) h) : grid_Grid_row_c (ptr b 0) (.int .i64 y) h R := by
  apply grid_Grid_row_runs
  unfold grid_Grid_row_S
  have f0 : ∀ {K : Value → Prop}, sLd h (ptr b 0) K = K (.int .i64 w) := s.ld rfl
  have f2 : ∀ {K : Value → Prop}, sLd h (ptr b 2) K = K v := s.ld rfl
  obtain ⟨z1, z2, z3, z4, z5⟩ := z
  have m := sz_mul ⟨z1, z2⟩ z4 hy
  rw [Int.mul_comm w g] at z5
  simp only [ev_nil, ev_off, Nat.zero_add, f0, f2, ev_mul, ev_add]
  rw [wrap_i64 (by omega) (by omega), wrap_i64 (x := y + 1) (by omega) (by omega), wrap_i64 (by omega) (by omega)]
  obtain ⟨i, hi⟩ : ∃ i : Nat, y * w = i := ⟨(y * w).toNat, by omega⟩
  obtain ⟨j, hj⟩ : ∃ j : Nat, (y + 1) * w = j := ⟨((y + 1) * w).toNat, by omega⟩
  rw [hi, hj] at H ⊢
  exact s.b1.seq.slK (by omega) (by omega) ⟨.i64, rfl⟩ ⟨.i64, rfl⟩ H
theorem idx {x y : Int} (z : szOk w g l) (hx : 0 ≤ x ∧ x < w) (hy : 0 ≤ y ∧ y < g) : ∃ i j k : Nat, y * w = i ∧ (y + 1) * w = j ∧ x = k ∧ i + k < j ∧ j ≤ l.length ∧ (y * w + x).toNat = i + k := by
  obtain ⟨z1, z2, z3, z4, z5⟩ := z
  have m := sz_mul ⟨z1, z2⟩ z4 hy
  rw [Int.mul_comm w g] at z5
  exact ⟨(y * w).toNat, ((y + 1) * w).toNat, x.toNat, by omega, by omega, by omega, by omega, by omega, by omega⟩
theorem cut_get {i j k : Nat} (h1 : i + k < j) (h2 : j ≤ l.length) : ((l.take j).drop i)[k]? = some (l.getD (i + k) ce0) := by
  rw [List.getElem?_drop, List.getElem?_take_of_lt h1, List.getD_eq_getElem?_getD, List.getElem?_eq_getElem (by omega)]; rfl
theorem at_spec {x y : Int} (hx : i64 x) (hy : i64 y) (s : HW.Sep h0 (Blk b (grd w g v) 89 :: Sl encCe 4 v l :: F) h) (z : szOk w g l) (H : ∀ h', Ext h h' → R (.agg (cell l w g x y).a) h') : grid_Grid_At_c (ptr b 0) (.int .i64 x) (.int .i64 y) h R := by
  apply grid_Grid_At_runs
  unfold grid_Grid_At_S
  refine (HW.Sep.start h).new (fun k h1 s1 => ?_)
  refine all_spec (s.ext' s1.ext) (fun h2 e2 => ?_)
  have zz := z
  obtain ⟨z1, z2, z3, z4, z5⟩ := zz
  refine rin_spec (by unfold i64; omega) (by unfold i64; omega) hx hy (fun h3 e3 => ?_)
  have s3 := (s1.ext' e2).ext' e3
  have sg := s.ext' s3.ext
  rw [ev_not, ev_if]
  unfold cell at H
  cases hin : inG w g x y with
  | false =>
    rw [hin, if_neg (by decide)] at H
    rw [if_pos (by decide)]
    refine build_intro (cs := ce0.a) rfl ?_
    refine s3.stall (cs := ce0.a) rfl rfl (ce_cell _) (fun h4 s4 => ?_)
    rw [s4.ldall (n := 4) rfl]
    exact H h4 s4.ext
  | true =>
    rw [hin, if_pos rfl] at H
    rw [if_neg (by decide)]
    obtain ⟨ix, iy⟩ := inG_iff.1 hin
    refine row_spec sg z iy ?_
    obtain ⟨i, j, n, e1, e2, rfl, h5, h6, e3⟩ := idx z ix iy
    rw [e3] at H
    rw [e1, e2, Int.toNat_natCast, Int.toNat_natCast]
    have q := sg.b1.seq.cutP (i := i) (j := j) (by omega) h6
    rw [q.ldn (cut_get h5 h6) rfl]
    refine s3.stall (cs := (l.getD (i + n) ce0).a) rfl rfl (ce_cell _) (fun h4 s4 => ?_)
    rw [s4.ldall (n := 4) rfl]
    exact H h4 s4.ext
def setC (l : List Ce) (w h x y : Int) (c : Ce) : List Ce := if inG w h x y = true then l.set (y * w + x).toNat c else l
theorem setC_len (l : List Ce) (w h x y : Int) (c : Ce) : (setC l w h x y c).length = l.length := by unfold setC; split <;> simp
theorem eltP_cut {i j k : Nat} (q : Seq encCe 4 h v l) (hk : i + k < j) (hj : j ≤ l.length) : eltP (HW.cutP v i j 4) k 4 = eltP v (i + k) 4 := by
  obtain ⟨a, n, m, rfl, hn, hm, h2 | ⟨b, o, rfl, hb, hc⟩⟩ := q
  · omega
  · simp only [HW.cutP, cutV]
    rw [if_neg (show ¬ m = i by omega)]
    simp only [Option.map_some, Addr.add, eltP]
    split
    · rename_i h0
      show ptr b (o + k * 4) = ptr b (o + (i + k) * 4)
      congr 1; omega
    · show ptr b (o + i * 4 + k * 4) = ptr b (o + (i + k) * 4)
      congr 1; omega
theorem set_spec {x y : Int} {c : Ce} (hx : i64 x) (hy : i64 y) (s : HW.Sep h0 (Blk b (grd w g v) 89 :: Sl encCe 4 v l :: F) h) (z : szOk w g l) (H : ∀ h', HW.Sep h0 (Blk b (grd w g v) 89 :: Sl encCe 4 v (setC l w g x y c) :: F) h' → R (.bool (inG w g x y)) h') : grid_Grid_Set_c (ptr b 0) (.int .i64 x) (.int .i64 y) (.agg c.a) h R := by
  apply grid_Grid_Set_runs
  unfold grid_Grid_Set_S
  refine (HW.Sep.start h).box (c := c.a) rfl (fun k h1 s1 => ?_)
  refine all_spec (s.ext' s1.ext) (fun h2 e2 => ?_)
  have zz := z
  obtain ⟨z1, z2, z3, z4, z5⟩ := zz
  refine rin_spec (by unfold i64; omega) (by unfold i64; omega) hx hy (fun h3 e3 => ?_)
  have s3 := (s1.ext' e2).ext' e3
  have sg := s.ext' s3.ext
  rw [ev_if]
  unfold setC at H
  unfold grid_Grid_Set_j1
  cases hin : inG w g x y with
  | false =>
    rw [hin, if_neg (by decide)] at H
    rw [if_neg (by decide)]
    exact H h3 sg
  | true =>
    rw [hin, if_pos rfl] at H
    rw [if_pos rfl]
    obtain ⟨ix, iy⟩ := inG_iff.1 hin
    refine ⟨fun h' => h'.has k c.a 31, s3.has, ?_⟩
    refine row_spec sg z iy ⟨s3.has, ?_⟩
    have cA : ∀ {K : Value → Prop}, sLdNC (fun h' => h'.has k c.a 31) (ptr k 0) 4 K = K (.agg c.a) := fun {K} => ldnc_all (C := fun h' => h'.has k c.a 31) (h0 := h3) s3.has rfl (fun _ x => x)
    rw [cA]
    obtain ⟨i, j, n, e1, e2, rfl, h5, h6, e3⟩ := idx z ix iy
    rw [e3] at H
    rw [e1, e2, Int.toNat_natCast, Int.toNat_natCast]
    have q := sg.b1.seq
    have qc := q.cutP (i := i) (j := j) (by omega) h6
    rw [qc.elt (by rw [List.length_drop, List.length_take]; omega), eltP_cut q h5 h6]
    exact sg.b1.setn encCe_len encCe_cell (by omega) c (fun h4 s4 => H h4 s4.b1)
theorem new_spec {w g : Int} (hw : i64 w) (hg : i64 g) (H0 : ¬(1 ≤ w ∧ w ≤ 512 ∧ 1 ≤ g ∧ g ≤ 512) → R (.pointer none) h) (H1 : (1 ≤ w ∧ w ≤ 512 ∧ 1 ≤ g ∧ g ≤ 512) → ∀ b v h', szOk w g (List.replicate (w * g).toNat ce0) → HW.Sep h [Blk b (grd w g v) 89, Sl encCe 4 v (List.replicate (w * g).toNat ce0)] h' → R (ptr b 0) h') : grid_New_c (.int .i64 w) (.int .i64 g) h R := by
  apply grid_New_runs
  unfold grid_New_S
  simp only [ev_lt, ev_gt, ev_or_p, ev_if, Bool.or_eq_true, decide_eq_true_eq]
  by_cases hc : 1 ≤ w ∧ w ≤ 512 ∧ 1 ≤ g ∧ g ≤ 512
  · rw [if_neg (by omega)]
    have m := sz_mul (w := w) (h := g) (y := 0) ⟨hc.1, hc.2.1⟩ hc.2.2.2 ⟨by omega, by omega⟩
    rw [Int.mul_comm g w] at m
    have m0 : 0 ≤ w * g := Int.mul_nonneg (by omega) (by omega)
    rw [ev_mul, wrap_i64 (by omega) (by omega)]
    refine (HW.Sep.start h).make (enc := encCe) (sz := 4) encCe_len ce0 rfl (w * g).toNat (w * g).toNat (by omega) (by omega) (Nat.le_refl _) (by omega) (by omega) (fun v h2 cv s2 => ?_)
    obtain ⟨va, vn, vm, rfl, _⟩ := s2.seq
    refine build_intro (cs := grd w g (.slice va vn vm)) ⟨rfl, Nat.le_of_ble_eq_true rfl, rfl, Nat.le_of_ble_eq_true rfl, rfl, Nat.le_of_ble_eq_true rfl, rfl⟩ ?_
    refine s2.box (c := grd w g (.slice va vn vm)) rfl (fun b h3 s3 => ?_)
    exact H1 hc b _ h3 ⟨hc.1, hc.2.1, hc.2.2.1, hc.2.2.2, by rw [List.length_replicate]; omega⟩ s3
  · rw [if_pos (by omega)]
    exact H0 hc
theorem clone_cells {F : List HP} (q : HW.Rd encCe 4 h0 F v l) (s : HW.Sep h0 F h) (hl : 1 ≤ l.length) (hl2 : l.length ≤ 262144) (H : ∀ v' h', Cell1 v' → HW.Sep h0 (Sl encCe 4 v' l :: F) h' → R v' h') : slices_Clone_api_Cell_api_Cell_c v h R := by
  apply slices_Clone_api_Cell_api_Cell_runs
  unfold slices_Clone_api_Cell_api_Cell_S
  have q0 := q.at0 s
  obtain ⟨a, n, m, rfl, hn, hm, h2 | ⟨b, o, rfl, hb, hc⟩⟩ := q0
  · omega
  · rw [ev_eqlNilS, Option.isNone_some, ev_if, if_neg (by decide)]
    refine s.slit (enc := encCe) (sz := 4) encCe_len [] rfl rfl (fun a h1 _ s1 => ?_)
    refine s1.app (enc := encCe) (sz := 4) rfl (by decide) encCe_len encCe_cell (q.at1 s1) (by simp only [List.length_nil]; omega) (by decide) (fun v' h2 c2 s2 => ?_)
    exact H v' h2 c2 s2
theorem clone_spec (s : HW.Sep h0 (Blk b (grd w g v) 89 :: Sl encCe 4 v l :: F) h) (z : szOk w g l) (H : ∀ b' v' h', HW.Sep h0 (Blk b' (grd w g v') 89 :: Sl encCe 4 v' l :: Blk b (grd w g v) 89 :: Sl encCe 4 v l :: F) h' → R (ptr b' 0) h') : grid_Grid_Clone_c (ptr b 0) h R := by
  apply grid_Grid_Clone_runs
  unfold grid_Grid_Clone_S
  refine ⟨fun h' => h'.has b (grd w g v) 89, s.has, ?_⟩
  have at_ : ∀ {o : Nat} {u : Value} {K : Value → Prop}, (grd w g v)[o]? = some u → sLdC (fun h' => h'.has b (grd w g v) 89) (ptr b o) K = K u := fun hv => ldc_at (C := fun h' => h'.has b (grd w g v) 89) (h0 := h) s.has (fun h' e => by rw [e.at, hv])
  simp only [ev_nil, ev_off, Nat.zero_add]
  have f2 : ∀ {K : Value → Prop}, sLd h (ptr b 2) K = K v := s.ld rfl
  rw [at_ (o := 0) rfl, at_ (o := 1) rfl]
  first | rw [at_ (o := 2) rfl] | rw [f2]
  obtain ⟨z1, z2, z3, z4, z5⟩ := z
  have m := sz_mul (w := w) (h := g) (y := 0) ⟨z1, z2⟩ z4 ⟨by omega, by omega⟩
  have m1 : 1 * 1 ≤ w * g := Int.mul_le_mul z1 z3 (by decide) (by omega)
  rw [Int.mul_comm g w] at m
  refine clone_cells (F := Blk b (grd w g v) 89 :: Sl encCe 4 v l :: F) Rd.own1 s (by omega) (by omega) (fun v' h1 c1 s1 => ⟨s1.b1.has, ?_⟩)
  obtain ⟨va, vn, vm, rfl, _⟩ := s1.seq
  refine build_intro (cs := grd w g (.slice va vn vm)) ⟨rfl, Nat.le_of_ble_eq_true rfl, rfl, Nat.le_of_ble_eq_true rfl, rfl, Nat.le_of_ble_eq_true rfl, rfl⟩ ?_
  refine s1.box (c := grd w g (.slice va vn vm)) rfl (fun b' h2 s2 => ?_)
  exact H b' _ h2 s2
end
end Go.Proofs.YtmhhjpfkipficaaDoor

end

section
/- The shallow reading of one function, and that the function does it. Written by a program. -/
set_option linter.unusedVariables false
namespace Go.Proofs.YtmhhjpfkipficaaDoor
open Go Go.HW

def rect_near_S (x0 : Value) (h : Heap) (R : Value → Heap → Prop) : Prop :=
  sGe x0 (.int .i64 (-1073741824)) fun x4 =>
  sAnd x4 (fun k =>
  sLe x0 (.int .i64 1073741824) fun x7 =>
  k x7) fun x8 =>
  R x8 h
set_option maxRecDepth 100000 in
theorem rect_near_runs {x0 : Value} {h : Heap} {R : Value → Heap → Prop} (H : rect_near_S x0 h R) : rect_near_c x0 h R := by
  unfold rect_near_S at H
  refine runs_of (b := ⟨#[x0, undef, undef, undef, undef, undef, undef, undef, undef], []⟩) Tryd.call104 Tryd.func104 rfl (by kernel_rfl) (fun w0 HA => ?_)
  refine wp_seq ?_
  refine lwp_list ?_
  refine ls_assign (x := (.bool false)) (by kernel_rfl) (by kernel_rfl) ?_
  refine ls_nil ?_
  refine then_normal ?_
  refine fr_eq (b := ⟨#[x0, undef, (.bool false), undef, undef, undef, undef, undef, undef], []⟩) (by kernel_rfl) ?_
  refine wp_seq ?_
  refine lwp_list ?_
  refine ls_move (x := x0) (by kernel_rfl) (by kernel_rfl) ?_
  refine ls_p (d := some 4) (by kernel_rfl) (by kernel_rfl) (p_sGe (by kernel_rfl) (by kernel_rfl) H) (fun x4 H => ?_)
  refine ls_move (x := x4) (by kernel_rfl) (by kernel_rfl) ?_
  refine ls_and [(), (), ()] (fun K a w => ∃ (D : Nat → Value) (x8 : Value), a = ⟨#[x0, undef, (.bool false), x0, x4, x4, (D 0), (D 1), x8], []⟩ ∧ At w0 w h ∧ K x8) H (fun hb H => ?_) (fun hb H => ?_) ?_
  · refine ls_move (x := x0) (by rw [hb]; kernel_rfl) (by kernel_rfl) ?_
    refine ls_p (d := some 7) (by kernel_rfl) (by rw [hb]; kernel_rfl) (p_sLe (by kernel_rfl) (by kernel_rfl) H) (fun x7 H => ?_)
    refine ls_pick_t (x := x7) (by kernel_rfl) (by rw [hb]; kernel_rfl) (by kernel_rfl) ?_
    refine ls_nil ?_
    refine then_normal ?_
    exact ⟨(fun i => ([x0, x7]).getD i undef), x7, by kernel_rfl, HA, H⟩
  · refine ls_skip (d := some 6) (by kernel_rfl) (by rw [hb]; kernel_rfl) ?_
    refine ls_skip (d := some 7) (by kernel_rfl) (by rw [hb]; kernel_rfl) ?_
    refine ls_pick_f (y := (.bool false)) (by kernel_rfl) (by rw [hb]; kernel_rfl) (by kernel_rfl) ?_
    refine ls_nil ?_
    refine then_normal ?_
    exact ⟨(fun i => ([undef, undef]).getD i undef), (.bool false), by kernel_rfl, HA, H⟩
  · rintro _ w ⟨D, x8, rfl, HA, H⟩
    refine ls_assign (x := x8) (by kernel_rfl) (by kernel_rfl) ?_
    refine ls_nil ?_
    refine then_normal ?_
    refine fr_eq (b := ⟨#[x0, undef, x8, x0, x4, x4, (D 0), (D 1), x8], []⟩) (by kernel_rfl) ?_
    refine wp_ret ?_
    exact end1 (Tryd.results104) (by kernel_rfl) (by kernel_rfl) HA H _ (.inr rfl)

end Go.Proofs.YtmhhjpfkipficaaDoor

end

section
/- The shallow reading of one function, and that the function does it. Written by a program. -/
set_option linter.unusedVariables false
namespace Go.Proofs.YtmhhjpfkipficaaDoor
open Go Go.HW

def rect_Right_S (x0 : Value) (h : Heap) (R : Value → Heap → Prop) : Prop :=
  sBox h x0 83 fun x1 h => 
  sOff x1 0 fun x3 =>
  sLd h x3 fun x4 =>
  rect_near_c x4 h fun x5 h_1 => 
  sAndH x5 h_1 (fun k_4 =>
  sOff x1 1 fun x7 =>
  sLd h_1 x7 fun x8 =>
  rect_near_c x8 h_1 fun x9 h_7 => 
  k_4 x9 h_7) fun x10 h_2 =>
  sAndH x10 h_2 (fun k_3 =>
  sOff x1 2 fun x12 =>
  sLd h_2 x12 fun x13 =>
  rect_near_c x13 h_2 fun x14 h_6 => 
  k_3 x14 h_6) fun x15 h_3 =>
  sAndH x15 h_3 (fun k_2 =>
  sOff x1 3 fun x17 =>
  sLd h_3 x17 fun x18 =>
  rect_near_c x18 h_3 fun x19 h_5 => 
  k_2 x19 h_5) fun x20 h_4 =>
  sAnd x20 (fun k_1 =>
  sOff x1 2 fun x22 =>
  sLd h_4 x22 fun x23 =>
  sGe x23 (.int .i64 0) fun x24 =>
  k_1 x24) fun x25 =>
  sAnd x25 (fun k =>
  sOff x1 3 fun x27 =>
  sLd h_4 x27 fun x28 =>
  sGe x28 (.int .i64 0) fun x29 =>
  k x29) fun x30 =>
  R x30 h_4
set_option maxRecDepth 100000 in
theorem rect_Right_runs {x0 : Value} {h : Heap} {R : Value → Heap → Prop} (H : rect_Right_S x0 h R) : rect_Right_c x0 h R := by
  unfold rect_Right_S at H
  refine runs_of (b := ⟨#[x0, undef, undef, undef, undef, undef, undef, undef, undef, undef, undef, undef, undef, undef, undef, undef, undef, undef, undef, undef, undef, undef, undef, undef, undef, undef, undef, undef, undef, undef, undef], []⟩) Tryd.call100 Tryd.func100 rfl (by kernel_rfl) (fun w0 HA => ?_)
  refine wp_seq ?_
  refine lwp_list ?_
  refine ls_d (d := some 1) (by kernel_rfl) (by kernel_rfl) HA (d_box (by kernel_rfl) H) (fun x1 h w H HA => ?_)
  refine ls_assign (x := (.bool false)) (by kernel_rfl) (by kernel_rfl) ?_
  refine ls_nil ?_
  refine then_normal ?_
  refine fr_eq (b := ⟨#[x0, x1, (.bool false), undef, undef, undef, undef, undef, undef, undef, undef, undef, undef, undef, undef, undef, undef, undef, undef, undef, undef, undef, undef, undef, undef, undef, undef, undef, undef, undef, undef], []⟩) (by kernel_rfl) ?_
  refine wp_seq ?_
  refine lwp_list ?_
  refine ls_p (d := some 3) (by kernel_rfl) (by kernel_rfl) (p_off Tryd.underlying83 rfl (fun w => ⟨_, Tryd.sizeOf3 w⟩) rfl (by kernel_rfl) H) (fun x3 H => ?_)
  refine ls_y (d := some 4) (by kernel_rfl) (by kernel_rfl) HA (y_ld Tryd.isAgg3 (by kernel_rfl) H) (fun x4 H => ?_)
  refine ls_d (d := some 5) (by kernel_rfl) (by kernel_rfl) HA (d_call (by kernel_rfl) (by kernel_rfl) H) (fun x5 h_1 w_1 H HA_1 => ?_)
  refine ls_move (x := x5) (by kernel_rfl) (by kernel_rfl) ?_
  refine ls_andh [(), (), (), ()] (fun K a w => ∃ (D : Nat → Value) (x10 : Value) (h_2 : Heap), a = ⟨#[x0, x1, (.bool false), x3, x4, x5, x5, (D 0), (D 1), (D 2), x10, undef, undef, undef, undef, undef, undef, undef, undef, undef, undef, undef, undef, undef, undef, undef, undef, undef, undef, undef, undef], []⟩ ∧ At w0 w h_2 ∧ K x10 h_2) H (fun hb_4 H => ?_) (fun hb_4 H => ?_) ?_
  · refine ls_p (d := some 7) (by kernel_rfl) (by rw [hb_4]; kernel_rfl) (p_off Tryd.underlying83 rfl (fun w => ⟨_, Tryd.sizeOf3 w⟩) rfl (by kernel_rfl) H) (fun x7 H => ?_)
    refine ls_y (d := some 8) (by kernel_rfl) (by rw [hb_4]; kernel_rfl) HA_1 (y_ld Tryd.isAgg3 (by kernel_rfl) H) (fun x8 H => ?_)
    refine ls_fr (b := ⟨#[x0, x1, (.bool false), x3, x4, x5, x5, x7, x8, undef, undef, undef, undef, undef, undef, undef, undef, undef, undef, undef, undef, undef, undef, undef, undef, undef, undef, undef, undef, undef, undef], []⟩) (by kernel_rfl) ?_
    refine ls_d (d := some 9) (by kernel_rfl) (by rw [hb_4]; kernel_rfl) HA_1 (d_call (by kernel_rfl) (by kernel_rfl) H) (fun x9 h_7 w_9 H HA_9 => ?_)
    refine ls_pick_t (x := x9) (by kernel_rfl) (by rw [hb_4]; kernel_rfl) (by kernel_rfl) ?_
    refine ls_nil ?_
    refine then_normal ?_
    exact ⟨(fun i => ([x7, x8, x9]).getD i undef), x9, h_7, by kernel_rfl, HA_9, H⟩
  · refine ls_skip (d := some 7) (by kernel_rfl) (by rw [hb_4]; kernel_rfl) ?_
    refine ls_skip (d := some 8) (by kernel_rfl) (by rw [hb_4]; kernel_rfl) ?_
    refine ls_fr (b := ⟨#[x0, x1, (.bool false), x3, x4, x5, x5, undef, undef, undef, undef, undef, undef, undef, undef, undef, undef, undef, undef, undef, undef, undef, undef, undef, undef, undef, undef, undef, undef, undef, undef], []⟩) (by kernel_rfl) ?_
    refine ls_skip (d := some 9) (by kernel_rfl) (by rw [hb_4]; kernel_rfl) ?_
    refine ls_pick_f (y := (.bool false)) (by kernel_rfl) (by rw [hb_4]; kernel_rfl) (by kernel_rfl) ?_
    refine ls_nil ?_
    refine then_normal ?_
    exact ⟨(fun i => ([undef, undef, undef]).getD i undef), (.bool false), h_1, by kernel_rfl, HA_1, H⟩
  · rintro _ w_2 ⟨D, x10, h_2, rfl, HA_2, H⟩
    refine ls_move (x := x10) (by kernel_rfl) (by kernel_rfl) ?_
    refine ls_andh [(), (), (), ()] (fun K a w => ∃ (D_1 : Nat → Value) (x15 : Value) (h_3 : Heap), a = ⟨#[x0, x1, (.bool false), x3, x4, x5, x5, (D 0), (D 1), (D 2), x10, x10, (D_1 0), (D_1 1), (D_1 2), x15, undef, undef, undef, undef, undef, undef, undef, undef, undef, undef, undef, undef, undef, undef, undef], []⟩ ∧ At w0 w h_3 ∧ K x15 h_3) H (fun hb_3 H => ?_) (fun hb_3 H => ?_) ?_
    · refine ls_p (d := some 12) (by kernel_rfl) (by rw [hb_3]; kernel_rfl) (p_off Tryd.underlying83 rfl (fun w => ⟨_, Tryd.sizeOf3 w⟩) rfl (by kernel_rfl) H) (fun x12 H => ?_)
      refine ls_y (d := some 13) (by kernel_rfl) (by rw [hb_3]; kernel_rfl) HA_2 (y_ld Tryd.isAgg3 (by kernel_rfl) H) (fun x13 H => ?_)
      refine ls_d (d := some 14) (by kernel_rfl) (by rw [hb_3]; kernel_rfl) HA_2 (d_call (by kernel_rfl) (by kernel_rfl) H) (fun x14 h_6 w_8 H HA_8 => ?_)
      refine ls_pick_t (x := x14) (by kernel_rfl) (by rw [hb_3]; kernel_rfl) (by kernel_rfl) ?_
      refine ls_nil ?_
      refine then_normal ?_
      exact ⟨(fun i => ([x12, x13, x14]).getD i undef), x14, h_6, by kernel_rfl, HA_8, H⟩
    · refine ls_skip (d := some 12) (by kernel_rfl) (by rw [hb_3]; kernel_rfl) ?_
      refine ls_skip (d := some 13) (by kernel_rfl) (by rw [hb_3]; kernel_rfl) ?_
      refine ls_skip (d := some 14) (by kernel_rfl) (by rw [hb_3]; kernel_rfl) ?_
      refine ls_pick_f (y := (.bool false)) (by kernel_rfl) (by rw [hb_3]; kernel_rfl) (by kernel_rfl) ?_
      refine ls_nil ?_
      refine then_normal ?_
      exact ⟨(fun i => ([undef, undef, undef]).getD i undef), (.bool false), h_2, by kernel_rfl, HA_2, H⟩
    · rintro _ w_3 ⟨D_1, x15, h_3, rfl, HA_3, H⟩
      refine ls_move (x := x15) (by kernel_rfl) (by kernel_rfl) ?_
      refine ls_andh [(), (), (), ()] (fun K a w => ∃ (D_2 : Nat → Value) (x20 : Value) (h_4 : Heap), a = ⟨#[x0, x1, (.bool false), x3, x4, x5, x5, (D 0), (D 1), (D 2), x10, x10, (D_1 0), (D_1 1), (D_1 2), x15, x15, (D_2 0), (D_2 1), (D_2 2), x20, undef, undef, undef, undef, undef, undef, undef, undef, undef, undef], []⟩ ∧ At w0 w h_4 ∧ K x20 h_4) H (fun hb_2 H => ?_) (fun hb_2 H => ?_) ?_
      · refine ls_p (d := some 17) (by kernel_rfl) (by rw [hb_2]; kernel_rfl) (p_off Tryd.underlying83 rfl (fun w => ⟨_, Tryd.sizeOf3 w⟩) rfl (by kernel_rfl) H) (fun x17 H => ?_)
        refine ls_y (d := some 18) (by kernel_rfl) (by rw [hb_2]; kernel_rfl) HA_3 (y_ld Tryd.isAgg3 (by kernel_rfl) H) (fun x18 H => ?_)
        refine ls_d (d := some 19) (by kernel_rfl) (by rw [hb_2]; kernel_rfl) HA_3 (d_call (by kernel_rfl) (by kernel_rfl) H) (fun x19 h_5 w_7 H HA_7 => ?_)
        refine ls_pick_t (x := x19) (by kernel_rfl) (by rw [hb_2]; kernel_rfl) (by kernel_rfl) ?_
        refine ls_nil ?_
        refine then_normal ?_
        exact ⟨(fun i => ([x17, x18, x19]).getD i undef), x19, h_5, by kernel_rfl, HA_7, H⟩
      · refine ls_skip (d := some 17) (by kernel_rfl) (by rw [hb_2]; kernel_rfl) ?_
        refine ls_skip (d := some 18) (by kernel_rfl) (by rw [hb_2]; kernel_rfl) ?_
        refine ls_skip (d := some 19) (by kernel_rfl) (by rw [hb_2]; kernel_rfl) ?_
        refine ls_pick_f (y := (.bool false)) (by kernel_rfl) (by rw [hb_2]; kernel_rfl) (by kernel_rfl) ?_
        refine ls_nil ?_
        refine then_normal ?_
        exact ⟨(fun i => ([undef, undef, undef]).getD i undef), (.bool false), h_3, by kernel_rfl, HA_3, H⟩
      · rintro _ w_4 ⟨D_2, x20, h_4, rfl, HA_4, H⟩
        refine ls_move (x := x20) (by kernel_rfl) (by kernel_rfl) ?_
        refine ls_and [(), (), (), ()] (fun K a w => ∃ (D_3 : Nat → Value) (x25 : Value), a = ⟨#[x0, x1, (.bool false), x3, x4, x5, x5, (D 0), (D 1), (D 2), x10, x10, (D_1 0), (D_1 1), (D_1 2), x15, x15, (D_2 0), (D_2 1), (D_2 2), x20, x20, (D_3 0), (D_3 1), (D_3 2), x25, undef, undef, undef, undef, undef], []⟩ ∧ At w0 w h_4 ∧ K x25) H (fun hb_1 H => ?_) (fun hb_1 H => ?_) ?_
        · refine ls_p (d := some 22) (by kernel_rfl) (by rw [hb_1]; kernel_rfl) (p_off Tryd.underlying83 rfl (fun w => ⟨_, Tryd.sizeOf3 w⟩) rfl (by kernel_rfl) H) (fun x22 H => ?_)
          refine ls_y (d := some 23) (by kernel_rfl) (by rw [hb_1]; kernel_rfl) HA_4 (y_ld Tryd.isAgg3 (by kernel_rfl) H) (fun x23 H => ?_)
          refine ls_p (d := some 24) (by kernel_rfl) (by rw [hb_1]; kernel_rfl) (p_sGe (by kernel_rfl) (by kernel_rfl) H) (fun x24 H => ?_)
          refine ls_pick_t (x := x24) (by kernel_rfl) (by rw [hb_1]; kernel_rfl) (by kernel_rfl) ?_
          refine ls_nil ?_
          refine then_normal ?_
          exact ⟨(fun i => ([x22, x23, x24]).getD i undef), x24, by kernel_rfl, HA_4, H⟩
        · refine ls_skip (d := some 22) (by kernel_rfl) (by rw [hb_1]; kernel_rfl) ?_
          refine ls_skip (d := some 23) (by kernel_rfl) (by rw [hb_1]; kernel_rfl) ?_
          refine ls_skip (d := some 24) (by kernel_rfl) (by rw [hb_1]; kernel_rfl) ?_
          refine ls_pick_f (y := (.bool false)) (by kernel_rfl) (by rw [hb_1]; kernel_rfl) (by kernel_rfl) ?_
          refine ls_nil ?_
          refine then_normal ?_
          exact ⟨(fun i => ([undef, undef, undef]).getD i undef), (.bool false), by kernel_rfl, HA_4, H⟩
        · rintro _ w_5 ⟨D_3, x25, rfl, HA_5, H⟩
          refine ls_move (x := x25) (by kernel_rfl) (by kernel_rfl) ?_
          refine ls_and [(), (), (), ()] (fun K a w => ∃ (D_4 : Nat → Value) (x30 : Value), a = ⟨#[x0, x1, (.bool false), x3, x4, x5, x5, (D 0), (D 1), (D 2), x10, x10, (D_1 0), (D_1 1), (D_1 2), x15, x15, (D_2 0), (D_2 1), (D_2 2), x20, x20, (D_3 0), (D_3 1), (D_3 2), x25, x25, (D_4 0), (D_4 1), (D_4 2), x30], []⟩ ∧ At w0 w h_4 ∧ K x30) H (fun hb H => ?_) (fun hb H => ?_) ?_
          · refine ls_p (d := some 27) (by kernel_rfl) (by rw [hb]; kernel_rfl) (p_off Tryd.underlying83 rfl (fun w => ⟨_, Tryd.sizeOf3 w⟩) rfl (by kernel_rfl) H) (fun x27 H => ?_)
            refine ls_y (d := some 28) (by kernel_rfl) (by rw [hb]; kernel_rfl) HA_5 (y_ld Tryd.isAgg3 (by kernel_rfl) H) (fun x28 H => ?_)
            refine ls_p (d := some 29) (by kernel_rfl) (by rw [hb]; kernel_rfl) (p_sGe (by kernel_rfl) (by kernel_rfl) H) (fun x29 H => ?_)
            refine ls_pick_t (x := x29) (by kernel_rfl) (by rw [hb]; kernel_rfl) (by kernel_rfl) ?_
            refine ls_nil ?_
            refine then_normal ?_
            exact ⟨(fun i => ([x27, x28, x29]).getD i undef), x29, by kernel_rfl, HA_5, H⟩
          · refine ls_skip (d := some 27) (by kernel_rfl) (by rw [hb]; kernel_rfl) ?_
            refine ls_skip (d := some 28) (by kernel_rfl) (by rw [hb]; kernel_rfl) ?_
            refine ls_skip (d := some 29) (by kernel_rfl) (by rw [hb]; kernel_rfl) ?_
            refine ls_pick_f (y := (.bool false)) (by kernel_rfl) (by rw [hb]; kernel_rfl) (by kernel_rfl) ?_
            refine ls_nil ?_
            refine then_normal ?_
            exact ⟨(fun i => ([undef, undef, undef]).getD i undef), (.bool false), by kernel_rfl, HA_5, H⟩
          · rintro _ w_6 ⟨D_4, x30, rfl, HA_6, H⟩
            refine ls_assign (x := x30) (by kernel_rfl) (by kernel_rfl) ?_
            refine ls_nil ?_
            refine then_normal ?_
            refine fr_eq (b := ⟨#[x0, x1, x30, x3, x4, x5, x5, (D 0), (D 1), (D 2), x10, x10, (D_1 0), (D_1 1), (D_1 2), x15, x15, (D_2 0), (D_2 1), (D_2 2), x20, x20, (D_3 0), (D_3 1), (D_3 2), x25, x25, (D_4 0), (D_4 1), (D_4 2), x30], []⟩) (by kernel_rfl) ?_
            refine wp_ret ?_
            exact end1 (Tryd.results100) (by kernel_rfl) (by kernel_rfl) HA_6 H _ (.inr rfl)

end Go.Proofs.YtmhhjpfkipficaaDoor

end

section
/- The shallow reading of one function, and that the function does it. Written by a program. -/
set_option linter.unusedVariables false
namespace Go.Proofs.YtmhhjpfkipficaaDoor
open Go Go.HW

def rect_Empty_S (x0 : Value) (h : Heap) (R : Value → Heap → Prop) : Prop :=
  sBox h x0 83 fun x1 h => 
  sOff x1 2 fun x3 =>
  sLd h x3 fun x4 =>
  sLt x4 (.int .i64 1) fun x5 =>
  sOr x5 (fun k =>
  sOff x1 3 fun x7 =>
  sLd h x7 fun x8 =>
  sLt x8 (.int .i64 1) fun x9 =>
  k x9) fun x10 =>
  R x10 h
set_option maxRecDepth 100000 in
theorem rect_Empty_runs {x0 : Value} {h : Heap} {R : Value → Heap → Prop} (H : rect_Empty_S x0 h R) : rect_Empty_c x0 h R := by
  unfold rect_Empty_S at H
  refine runs_of (b := ⟨#[x0, undef, undef, undef, undef, undef, undef, undef, undef, undef, undef], []⟩) Tryd.call102 Tryd.func102 rfl (by kernel_rfl) (fun w0 HA => ?_)
  refine wp_seq ?_
  refine lwp_list ?_
  refine ls_d (d := some 1) (by kernel_rfl) (by kernel_rfl) HA (d_box (by kernel_rfl) H) (fun x1 h w H HA => ?_)
  refine ls_assign (x := (.bool false)) (by kernel_rfl) (by kernel_rfl) ?_
  refine ls_nil ?_
  refine then_normal ?_
  refine fr_eq (b := ⟨#[x0, x1, (.bool false), undef, undef, undef, undef, undef, undef, undef, undef], []⟩) (by kernel_rfl) ?_
  refine wp_seq ?_
  refine lwp_list ?_
  refine ls_p (d := some 3) (by kernel_rfl) (by kernel_rfl) (p_off Tryd.underlying83 rfl (fun w => ⟨_, Tryd.sizeOf3 w⟩) rfl (by kernel_rfl) H) (fun x3 H => ?_)
  refine ls_y (d := some 4) (by kernel_rfl) (by kernel_rfl) HA (y_ld Tryd.isAgg3 (by kernel_rfl) H) (fun x4 H => ?_)
  refine ls_p (d := some 5) (by kernel_rfl) (by kernel_rfl) (p_sLt (by kernel_rfl) (by kernel_rfl) H) (fun x5 H => ?_)
  refine ls_move (x := x5) (by kernel_rfl) (by kernel_rfl) ?_
  refine ls_or [(), (), (), ()] (fun K a w => ∃ (D : Nat → Value) (x10 : Value), a = ⟨#[x0, x1, (.bool false), x3, x4, x5, x5, (D 0), (D 1), (D 2), x10], []⟩ ∧ At w0 w h ∧ K x10) H (fun hb H => ?_) (fun hb H => ?_) ?_
  · refine ls_p (d := some 7) (by kernel_rfl) (by rw [hb]; kernel_rfl) (p_off Tryd.underlying83 rfl (fun w => ⟨_, Tryd.sizeOf3 w⟩) rfl (by kernel_rfl) H) (fun x7 H => ?_)
    refine ls_y (d := some 8) (by kernel_rfl) (by rw [hb]; kernel_rfl) HA (y_ld Tryd.isAgg3 (by kernel_rfl) H) (fun x8 H => ?_)
    refine ls_p (d := some 9) (by kernel_rfl) (by rw [hb]; kernel_rfl) (p_sLt (by kernel_rfl) (by kernel_rfl) H) (fun x9 H => ?_)
    refine ls_pick_f (y := x9) (by kernel_rfl) (by rw [hb]; kernel_rfl) (by kernel_rfl) ?_
    refine ls_nil ?_
    refine then_normal ?_
    exact ⟨(fun i => ([x7, x8, x9]).getD i undef), x9, by kernel_rfl, HA, H⟩
  · refine ls_skip (d := some 7) (by kernel_rfl) (by rw [hb]; kernel_rfl) ?_
    refine ls_skip (d := some 8) (by kernel_rfl) (by rw [hb]; kernel_rfl) ?_
    refine ls_skip (d := some 9) (by kernel_rfl) (by rw [hb]; kernel_rfl) ?_
    refine ls_pick_t (x := (.bool true)) (by kernel_rfl) (by rw [hb]; kernel_rfl) (by kernel_rfl) ?_
    refine ls_nil ?_
    refine then_normal ?_
    exact ⟨(fun i => ([undef, undef, undef]).getD i undef), (.bool true), by kernel_rfl, HA, H⟩
  · rintro _ w_1 ⟨D, x10, rfl, HA_1, H⟩
    refine ls_assign (x := x10) (by kernel_rfl) (by kernel_rfl) ?_
    refine ls_nil ?_
    refine then_normal ?_
    refine fr_eq (b := ⟨#[x0, x1, x10, x3, x4, x5, x5, (D 0), (D 1), (D 2), x10], []⟩) (by kernel_rfl) ?_
    refine wp_ret ?_
    exact end1 (Tryd.results102) (by kernel_rfl) (by kernel_rfl) HA_1 H _ (.inr rfl)

end Go.Proofs.YtmhhjpfkipficaaDoor

end

section
/- The shallow reading of one function, and that the function does it. Written by a program. -/
set_option linter.unusedVariables false
namespace Go.Proofs.YtmhhjpfkipficaaDoor
open Go Go.HW

def rect_of_S (x0 x1 x2 x3 : Value) (h : Heap) (R : Value → Heap → Prop) : Prop :=
  sNew h #[.int .i64 0, .int .i64 0, .int .i64 0, .int .i64 0] 83 fun x8 h => 
  sLe x2 x0 fun x11 =>
  sOr x11 (fun k =>
  sLe x3 x1 fun x15 =>
  k x15) fun x16 =>
  sIf x16 (sBuild #[.int .i64 0, .int .i64 0, .int .i64 0, .int .i64 0] [] fun x17 =>
  sStN h x8 x17 4 fun h_1 => 
  sLdN h_1 x8 4 fun r8 =>
  R r8 h_1) (sSub .i64 x2 x0 fun x22 =>
  sSub .i64 x3 x1 fun x25 =>
  sBuild #[.int .i64 0, .int .i64 0, .int .i64 0, .int .i64 0] [(0, 1, x0), (1, 1, x1), (2, 1, x22), (3, 1, x25)] fun x26 =>
  sStN h x8 x26 4 fun h_2 => 
  sLdN h_2 x8 4 fun r8_1 =>
  R r8_1 h_2)
set_option maxRecDepth 100000 in
theorem rect_of_runs {x0 x1 x2 x3 : Value} {h : Heap} {R : Value → Heap → Prop} (H : rect_of_S x0 x1 x2 x3 h R) : rect_of_c x0 x1 x2 x3 h R := by
  unfold rect_of_S at H
  refine runs_of (b := ⟨#[x0, x1, x2, x3, undef, undef, undef, undef, undef, undef, undef, undef, undef, undef, undef, undef, undef, undef, undef, undef, undef, undef, undef, undef, undef, undef, undef], []⟩) Tryd.call101 Tryd.func101 rfl (by kernel_rfl) (fun w0 HA => ?_)
  refine wp_seq ?_
  refine lwp_list ?_
  refine ls_d (d := some 8) (by kernel_rfl) (by kernel_rfl) HA (d_alloc Tryd.zeroValue83 H) (fun x8 h w H HA => ?_)
  refine ls_nil ?_
  refine then_normal ?_
  refine fr_eq (b := ⟨#[x0, x1, x2, x3, undef, undef, undef, undef, x8, undef, undef, undef, undef, undef, undef, undef, undef, undef, undef, undef, undef, undef, undef, undef, undef, undef, undef], []⟩) (by kernel_rfl) ?_
  refine wp_seq ?_
  refine wp_seq ?_
  refine lwp_list ?_
  refine ls_move (x := x2) (by kernel_rfl) (by kernel_rfl) ?_
  refine ls_move (x := x0) (by kernel_rfl) (by kernel_rfl) ?_
  refine ls_p (d := some 11) (by kernel_rfl) (by kernel_rfl) (p_sLe (by kernel_rfl) (by kernel_rfl) H) (fun x11 H => ?_)
  refine ls_move (x := x11) (by kernel_rfl) (by kernel_rfl) ?_
  refine ls_or [(), (), (), ()] (fun K a w => ∃ (D : Nat → Value) (x16 : Value), a = ⟨#[x0, x1, x2, x3, undef, undef, undef, undef, x8, x2, x0, x11, x11, (D 0), (D 1), (D 2), x16, undef, undef, undef, undef, undef, undef, undef, undef, undef, undef], []⟩ ∧ At w0 w h ∧ K x16) H (fun hb H => ?_) (fun hb H => ?_) ?_
  · refine ls_move (x := x3) (by rw [hb]; kernel_rfl) (by kernel_rfl) ?_
    refine ls_move (x := x1) (by rw [hb]; kernel_rfl) (by kernel_rfl) ?_
    refine ls_fr (b := ⟨#[x0, x1, x2, x3, undef, undef, undef, undef, x8, x2, x0, x11, x11, x3, x1, undef, undef, undef, undef, undef, undef, undef, undef, undef, undef, undef, undef], []⟩) (by kernel_rfl) ?_
    refine ls_p (d := some 15) (by kernel_rfl) (by rw [hb]; kernel_rfl) (p_sLe (by kernel_rfl) (by kernel_rfl) H) (fun x15 H => ?_)
    refine ls_pick_f (y := x15) (by kernel_rfl) (by rw [hb]; kernel_rfl) (by kernel_rfl) ?_
    refine ls_nil ?_
    refine then_normal ?_
    exact ⟨(fun i => ([x3, x1, x15]).getD i undef), x15, by kernel_rfl, HA, H⟩
  · refine ls_skip (d := some 13) (by kernel_rfl) (by rw [hb]; kernel_rfl) ?_
    refine ls_skip (d := some 14) (by kernel_rfl) (by rw [hb]; kernel_rfl) ?_
    refine ls_fr (b := ⟨#[x0, x1, x2, x3, undef, undef, undef, undef, x8, x2, x0, x11, x11, undef, undef, undef, undef, undef, undef, undef, undef, undef, undef, undef, undef, undef, undef], []⟩) (by kernel_rfl) ?_
    refine ls_skip (d := some 15) (by kernel_rfl) (by rw [hb]; kernel_rfl) ?_
    refine ls_pick_t (x := (.bool true)) (by kernel_rfl) (by rw [hb]; kernel_rfl) (by kernel_rfl) ?_
    refine ls_nil ?_
    refine then_normal ?_
    exact ⟨(fun i => ([undef, undef, undef]).getD i undef), (.bool true), by kernel_rfl, HA, H⟩
  · rintro _ w_1 ⟨D, x16, rfl, HA_1, H⟩
    refine ls_nil ?_
    refine then_normal ?_
    refine fr_eq (b := ⟨#[x0, x1, x2, x3, undef, undef, undef, undef, x8, x2, x0, x11, x11, (D 0), (D 1), (D 2), x16, undef, undef, undef, undef, undef, undef, undef, undef, undef, undef], []⟩) (by kernel_rfl) ?_
    refine wp_if rfl H (fun H => ?_) (fun H => ?_)
    · refine wp_seq ?_
      refine lwp_list ?_
      refine ls_p (d := some 17) (by kernel_rfl) (by kernel_rfl) (p_lit (pl := [(0, 1), (1, 1), (2, 1), (3, 1)]) Tryd.zeroValue83 Tryd.underlying83 ⟨(by kernel_rfl), Tryd.sizeOf3, (by kernel_rfl), Tryd.sizeOf3, (by kernel_rfl), Tryd.sizeOf3, (by kernel_rfl), Tryd.sizeOf3, trivial⟩ (by kernel_rfl) (by kernel_rfl) H) (fun x17 H => ?_)
      refine ls_d (d := none) (by kernel_rfl) (by kernel_rfl) HA_1 (d_stn Tryd.sizeOf83 (by kernel_rfl) (by kernel_rfl) H) (fun _ h_1 w_2 H HA_2 => ?_)
      refine ls_nil ?_
      refine then_normal ?_
      refine fr_eq (b := ⟨#[x0, x1, x2, x3, undef, undef, undef, undef, x8, x2, x0, x11, x11, (D 0), (D 1), (D 2), x16, x17, undef, undef, undef, undef, undef, undef, undef, undef, undef], []⟩) (by kernel_rfl) ?_
      refine wp_ret ?_
      refine then_ret ?_
      obtain ⟨r8, hr8, H⟩ := ld_n Tryd.isAgg83 Tryd.sizeOf83 H
      exact endR (vs := [r8]) (Tryd.results101) (by kernel_rfl) ⟨⟨_, (by kernel_rfl), hr8⟩, trivial⟩ HA_2 H _ (.inr rfl)
    · refine wp_skip ?_
      refine then_normal ?_
      refine fr_eq (b := ⟨#[x0, x1, x2, x3, undef, undef, undef, undef, x8, x2, x0, x11, x11, (D 0), (D 1), (D 2), x16, undef, undef, undef, undef, undef, undef, undef, undef, undef, undef], []⟩) (by kernel_rfl) ?_
      refine wp_seq ?_
      refine lwp_list ?_
      refine ls_move (x := x0) (by kernel_rfl) (by kernel_rfl) ?_
      refine ls_move (x := x1) (by kernel_rfl) (by kernel_rfl) ?_
      refine ls_move (x := x2) (by kernel_rfl) (by kernel_rfl) ?_
      refine ls_move (x := x0) (by kernel_rfl) (by kernel_rfl) ?_
      refine ls_p (d := some 22) (by kernel_rfl) (by kernel_rfl) (p_sub (by kernel_rfl) (by kernel_rfl) H) (fun x22 H => ?_)
      refine ls_move (x := x3) (by kernel_rfl) (by kernel_rfl) ?_
      refine ls_fr (b := ⟨#[x0, x1, x2, x3, undef, undef, undef, undef, x8, x2, x0, x11, x11, (D 0), (D 1), (D 2), x16, undef, x0, x1, x2, x0, x22, x3, undef, undef, undef], []⟩) (by kernel_rfl) ?_
      refine ls_move (x := x1) (by kernel_rfl) (by kernel_rfl) ?_
      refine ls_p (d := some 25) (by kernel_rfl) (by kernel_rfl) (p_sub (by kernel_rfl) (by kernel_rfl) H) (fun x25 H => ?_)
      refine ls_p (d := some 26) (by kernel_rfl) (by kernel_rfl) (p_lit (pl := [(0, 1), (1, 1), (2, 1), (3, 1)]) Tryd.zeroValue83 Tryd.underlying83 ⟨(by kernel_rfl), Tryd.sizeOf3, (by kernel_rfl), Tryd.sizeOf3, (by kernel_rfl), Tryd.sizeOf3, (by kernel_rfl), Tryd.sizeOf3, trivial⟩ (by kernel_rfl) (by kernel_rfl) H) (fun x26 H => ?_)
      refine ls_d (d := none) (by kernel_rfl) (by kernel_rfl) HA_1 (d_stn Tryd.sizeOf83 (by kernel_rfl) (by kernel_rfl) H) (fun _ h_2 w_3 H HA_3 => ?_)
      refine ls_nil ?_
      refine then_normal ?_
      refine fr_eq (b := ⟨#[x0, x1, x2, x3, undef, undef, undef, undef, x8, x2, x0, x11, x11, (D 0), (D 1), (D 2), x16, undef, x0, x1, x2, x0, x22, x3, x1, x25, x26], []⟩) (by kernel_rfl) ?_
      refine wp_ret ?_
      obtain ⟨r8_1, hr8_1, H⟩ := ld_n Tryd.isAgg83 Tryd.sizeOf83 H
      exact endR (vs := [r8_1]) (Tryd.results101) (by kernel_rfl) ⟨⟨_, (by kernel_rfl), hr8_1⟩, trivial⟩ HA_3 H _ (.inr rfl)

end Go.Proofs.YtmhhjpfkipficaaDoor

end

section
/- The shallow reading of one function, and that the function does it. Written by a program. -/
set_option linter.unusedVariables false
namespace Go.Proofs.YtmhhjpfkipficaaDoor
open Go Go.HW

def rect_Both_S (x0 x1 : Value) (h : Heap) (R : Value → Heap → Prop) : Prop :=
  sBox h x0 83 fun x2 h => 
  sBox h x1 83 fun x3 h_1 => 
  sNew h_1 #[.int .i64 0, .int .i64 0, .int .i64 0, .int .i64 0] 83 fun x4 h_2 => 
  sLdN h_2 x2 4 fun x5 =>
  rect_Right_c x5 h_2 fun x6 h_3 => 
  sNot x6 fun x7 =>
  sOrH x7 h_3 (fun k =>
  sLdN h_3 x3 4 fun x9 =>
  rect_Right_c x9 h_3 fun x10 h_8 => 
  sNot x10 fun x11 =>
  k x11 h_8) fun x12 h_4 =>
  sIf x12 (sBuild #[.int .i64 0, .int .i64 0, .int .i64 0, .int .i64 0] [] fun x13 =>
  sStN h_4 x4 x13 4 fun h_5 => 
  sLdN h_5 x4 4 fun r4 =>
  R r4 h_5) (sOff x2 0 fun x14 =>
  sLd h_4 x14 fun x15 =>
  sOff x3 0 fun x16 =>
  sLd h_4 x16 fun x17 =>
  sMax x15 x17 fun x18 =>
  sOff x2 1 fun x19 =>
  sLd h_4 x19 fun x20 =>
  sOff x3 1 fun x21 =>
  sLd h_4 x21 fun x22 =>
  sMax x20 x22 fun x23 =>
  sOff x2 0 fun x24 =>
  sLd h_4 x24 fun x25 =>
  sOff x2 2 fun x26 =>
  sLd h_4 x26 fun x27 =>
  sAdd .i64 x25 x27 fun x28 =>
  sOff x3 0 fun x29 =>
  sLd h_4 x29 fun x30 =>
  sOff x3 2 fun x31 =>
  sLd h_4 x31 fun x32 =>
  sAdd .i64 x30 x32 fun x33 =>
  sMin x28 x33 fun x34 =>
  sOff x2 1 fun x35 =>
  sLd h_4 x35 fun x36 =>
  sOff x2 3 fun x37 =>
  sLd h_4 x37 fun x38 =>
  sAdd .i64 x36 x38 fun x39 =>
  sOff x3 1 fun x40 =>
  sLd h_4 x40 fun x41 =>
  sOff x3 3 fun x42 =>
  sLd h_4 x42 fun x43 =>
  sAdd .i64 x41 x43 fun x44 =>
  sMin x39 x44 fun x45 =>
  rect_of_c x18 x23 x34 x45 h_4 fun x46 h_6 => 
  sStN h_6 x4 x46 4 fun h_7 => 
  sLdN h_7 x4 4 fun r4_1 =>
  R r4_1 h_7)
set_option maxRecDepth 100000 in
theorem rect_Both_runs {x0 x1 : Value} {h : Heap} {R : Value → Heap → Prop} (H : rect_Both_S x0 x1 h R) : rect_Both_c x0 x1 h R := by
  unfold rect_Both_S at H
  refine runs_of (b := ⟨#[x0, x1, undef, undef, undef, undef, undef, undef, undef, undef, undef, undef, undef, undef, undef, undef, undef, undef, undef, undef, undef, undef, undef, undef, undef, undef, undef, undef, undef, undef, undef, undef, undef, undef, undef, undef, undef, undef, undef, undef, undef, undef, undef, undef, undef, undef, undef], []⟩) Tryd.call91 Tryd.func91 rfl (by kernel_rfl) (fun w0 HA => ?_)
  refine wp_seq ?_
  refine lwp_list ?_
  refine ls_d (d := some 2) (by kernel_rfl) (by kernel_rfl) HA (d_box (by kernel_rfl) H) (fun x2 h w H HA => ?_)
  refine ls_d (d := some 3) (by kernel_rfl) (by kernel_rfl) HA (d_box (by kernel_rfl) H) (fun x3 h_1 w_1 H HA_1 => ?_)
  refine ls_d (d := some 4) (by kernel_rfl) (by kernel_rfl) HA_1 (d_alloc Tryd.zeroValue83 H) (fun x4 h_2 w_2 H HA_2 => ?_)
  refine ls_nil ?_
  refine then_normal ?_
  refine fr_eq (b := ⟨#[x0, x1, x2, x3, x4, undef, undef, undef, undef, undef, undef, undef, undef, undef, undef, undef, undef, undef, undef, undef, undef, undef, undef, undef, undef, undef, undef, undef, undef, undef, undef, undef, undef, undef, undef, undef, undef, undef, undef, undef, undef, undef, undef, undef, undef, undef, undef], []⟩) (by kernel_rfl) ?_
  refine wp_seq ?_
  refine wp_seq ?_
  refine lwp_list ?_
  refine ls_y (d := some 5) (by kernel_rfl) (by kernel_rfl) HA_2 (y_ldn Tryd.isAgg83 Tryd.sizeOf83 (by kernel_rfl) H) (fun x5 H => ?_)
  refine ls_d (d := some 6) (by kernel_rfl) (by kernel_rfl) HA_2 (d_call (by kernel_rfl) (by kernel_rfl) H) (fun x6 h_3 w_3 H HA_3 => ?_)
  refine ls_p (d := some 7) (by kernel_rfl) (by kernel_rfl) (p_not (by kernel_rfl) H) (fun x7 H => ?_)
  refine ls_move (x := x7) (by kernel_rfl) (by kernel_rfl) ?_
  refine ls_orh [(), (), (), ()] (fun K a w => ∃ (D : Nat → Value) (x12 : Value) (h_4 : Heap), a = ⟨#[x0, x1, x2, x3, x4, x5, x6, x7, x7, (D 0), (D 1), (D 2), x12, undef, undef, undef, undef, undef, undef, undef, undef, undef, undef, undef, undef, undef, undef, undef, undef, undef, undef, undef, undef, undef, undef, undef, undef, undef, undef, undef, undef, undef, undef, undef, undef, undef, undef], []⟩ ∧ At w0 w h_4 ∧ K x12 h_4) H (fun hb H => ?_) (fun hb H => ?_) ?_
  · refine ls_y (d := some 9) (by kernel_rfl) (by rw [hb]; kernel_rfl) HA_3 (y_ldn Tryd.isAgg83 Tryd.sizeOf83 (by kernel_rfl) H) (fun x9 H => ?_)
    refine ls_d (d := some 10) (by kernel_rfl) (by rw [hb]; kernel_rfl) HA_3 (d_call (by kernel_rfl) (by kernel_rfl) H) (fun x10 h_8 w_8 H HA_8 => ?_)
    refine ls_fr (b := ⟨#[x0, x1, x2, x3, x4, x5, x6, x7, x7, x9, x10, undef, undef, undef, undef, undef, undef, undef, undef, undef, undef, undef, undef, undef, undef, undef, undef, undef, undef, undef, undef, undef, undef, undef, undef, undef, undef, undef, undef, undef, undef, undef, undef, undef, undef, undef, undef], []⟩) (by kernel_rfl) ?_
    refine ls_p (d := some 11) (by kernel_rfl) (by rw [hb]; kernel_rfl) (p_not (by kernel_rfl) H) (fun x11 H => ?_)
    refine ls_pick_f (y := x11) (by kernel_rfl) (by rw [hb]; kernel_rfl) (by kernel_rfl) ?_
    refine ls_nil ?_
    refine then_normal ?_
    exact ⟨(fun i => ([x9, x10, x11]).getD i undef), x11, h_8, by kernel_rfl, HA_8, H⟩
  · refine ls_skip (d := some 9) (by kernel_rfl) (by rw [hb]; kernel_rfl) ?_
    refine ls_skip (d := some 10) (by kernel_rfl) (by rw [hb]; kernel_rfl) ?_
    refine ls_fr (b := ⟨#[x0, x1, x2, x3, x4, x5, x6, x7, x7, undef, undef, undef, undef, undef, undef, undef, undef, undef, undef, undef, undef, undef, undef, undef, undef, undef, undef, undef, undef, undef, undef, undef, undef, undef, undef, undef, undef, undef, undef, undef, undef, undef, undef, undef, undef, undef, undef], []⟩) (by kernel_rfl) ?_
    refine ls_skip (d := some 11) (by kernel_rfl) (by rw [hb]; kernel_rfl) ?_
    refine ls_pick_t (x := (.bool true)) (by kernel_rfl) (by rw [hb]; kernel_rfl) (by kernel_rfl) ?_
    refine ls_nil ?_
    refine then_normal ?_
    exact ⟨(fun i => ([undef, undef, undef]).getD i undef), (.bool true), h_3, by kernel_rfl, HA_3, H⟩
  · rintro _ w_4 ⟨D, x12, h_4, rfl, HA_4, H⟩
    refine ls_nil ?_
    refine then_normal ?_
    refine fr_eq (b := ⟨#[x0, x1, x2, x3, x4, x5, x6, x7, x7, (D 0), (D 1), (D 2), x12, undef, undef, undef, undef, undef, undef, undef, undef, undef, undef, undef, undef, undef, undef, undef, undef, undef, undef, undef, undef, undef, undef, undef, undef, undef, undef, undef, undef, undef, undef, undef, undef, undef, undef], []⟩) (by kernel_rfl) ?_
    refine wp_if rfl H (fun H => ?_) (fun H => ?_)
    · refine wp_seq ?_
      refine lwp_list ?_
      refine ls_p (d := some 13) (by kernel_rfl) (by kernel_rfl) (p_lit (pl := [(0, 1), (1, 1), (2, 1), (3, 1)]) Tryd.zeroValue83 Tryd.underlying83 ⟨(by kernel_rfl), Tryd.sizeOf3, (by kernel_rfl), Tryd.sizeOf3, (by kernel_rfl), Tryd.sizeOf3, (by kernel_rfl), Tryd.sizeOf3, trivial⟩ (by kernel_rfl) (by kernel_rfl) H) (fun x13 H => ?_)
      refine ls_d (d := none) (by kernel_rfl) (by kernel_rfl) HA_4 (d_stn Tryd.sizeOf83 (by kernel_rfl) (by kernel_rfl) H) (fun _ h_5 w_5 H HA_5 => ?_)
      refine ls_nil ?_
      refine then_normal ?_
      refine fr_eq (b := ⟨#[x0, x1, x2, x3, x4, x5, x6, x7, x7, (D 0), (D 1), (D 2), x12, x13, undef, undef, undef, undef, undef, undef, undef, undef, undef, undef, undef, undef, undef, undef, undef, undef, undef, undef, undef, undef, undef, undef, undef, undef, undef, undef, undef, undef, undef, undef, undef, undef, undef], []⟩) (by kernel_rfl) ?_
      refine wp_ret ?_
      refine then_ret ?_
      obtain ⟨r4, hr4, H⟩ := ld_n Tryd.isAgg83 Tryd.sizeOf83 H
      exact endR (vs := [r4]) (Tryd.results91) (by kernel_rfl) ⟨⟨_, (by kernel_rfl), hr4⟩, trivial⟩ HA_5 H _ (.inr rfl)
    · refine wp_skip ?_
      refine then_normal ?_
      refine fr_eq (b := ⟨#[x0, x1, x2, x3, x4, x5, x6, x7, x7, (D 0), (D 1), (D 2), x12, undef, undef, undef, undef, undef, undef, undef, undef, undef, undef, undef, undef, undef, undef, undef, undef, undef, undef, undef, undef, undef, undef, undef, undef, undef, undef, undef, undef, undef, undef, undef, undef, undef, undef], []⟩) (by kernel_rfl) ?_
      refine wp_seq ?_
      refine lwp_list ?_
      refine ls_p (d := some 14) (by kernel_rfl) (by kernel_rfl) (p_off Tryd.underlying83 rfl (fun w => ⟨_, Tryd.sizeOf3 w⟩) rfl (by kernel_rfl) H) (fun x14 H => ?_)
      refine ls_y (d := some 15) (by kernel_rfl) (by kernel_rfl) HA_4 (y_ld Tryd.isAgg3 (by kernel_rfl) H) (fun x15 H => ?_)
      refine ls_p (d := some 16) (by kernel_rfl) (by kernel_rfl) (p_off Tryd.underlying83 rfl (fun w => ⟨_, Tryd.sizeOf3 w⟩) rfl (by kernel_rfl) H) (fun x16 H => ?_)
      refine ls_y (d := some 17) (by kernel_rfl) (by kernel_rfl) HA_4 (y_ld Tryd.isAgg3 (by kernel_rfl) H) (fun x17 H => ?_)
      refine ls_p (d := some 18) (by kernel_rfl) (by kernel_rfl) (p_max (by kernel_rfl) (by kernel_rfl) H) (fun x18 H => ?_)
      refine ls_p (d := some 19) (by kernel_rfl) (by kernel_rfl) (p_off Tryd.underlying83 rfl (fun w => ⟨_, Tryd.sizeOf3 w⟩) rfl (by kernel_rfl) H) (fun x19 H => ?_)
      refine ls_fr (b := ⟨#[x0, x1, x2, x3, x4, x5, x6, x7, x7, (D 0), (D 1), (D 2), x12, undef, x14, x15, x16, x17, x18, x19, undef, undef, undef, undef, undef, undef, undef, undef, undef, undef, undef, undef, undef, undef, undef, undef, undef, undef, undef, undef, undef, undef, undef, undef, undef, undef, undef], []⟩) (by kernel_rfl) ?_
      refine ls_y (d := some 20) (by kernel_rfl) (by kernel_rfl) HA_4 (y_ld Tryd.isAgg3 (by kernel_rfl) H) (fun x20 H => ?_)
      refine ls_p (d := some 21) (by kernel_rfl) (by kernel_rfl) (p_off Tryd.underlying83 rfl (fun w => ⟨_, Tryd.sizeOf3 w⟩) rfl (by kernel_rfl) H) (fun x21 H => ?_)
      refine ls_y (d := some 22) (by kernel_rfl) (by kernel_rfl) HA_4 (y_ld Tryd.isAgg3 (by kernel_rfl) H) (fun x22 H => ?_)
      refine ls_p (d := some 23) (by kernel_rfl) (by kernel_rfl) (p_max (by kernel_rfl) (by kernel_rfl) H) (fun x23 H => ?_)
      refine ls_p (d := some 24) (by kernel_rfl) (by kernel_rfl) (p_off Tryd.underlying83 rfl (fun w => ⟨_, Tryd.sizeOf3 w⟩) rfl (by kernel_rfl) H) (fun x24 H => ?_)
      refine ls_y (d := some 25) (by kernel_rfl) (by kernel_rfl) HA_4 (y_ld Tryd.isAgg3 (by kernel_rfl) H) (fun x25 H => ?_)
      refine ls_fr (b := ⟨#[x0, x1, x2, x3, x4, x5, x6, x7, x7, (D 0), (D 1), (D 2), x12, undef, x14, x15, x16, x17, x18, x19, x20, x21, x22, x23, x24, x25, undef, undef, undef, undef, undef, undef, undef, undef, undef, undef, undef, undef, undef, undef, undef, undef, undef, undef, undef, undef, undef], []⟩) (by kernel_rfl) ?_
      refine ls_p (d := some 26) (by kernel_rfl) (by kernel_rfl) (p_off Tryd.underlying83 rfl (fun w => ⟨_, Tryd.sizeOf3 w⟩) rfl (by kernel_rfl) H) (fun x26 H => ?_)
      refine ls_y (d := some 27) (by kernel_rfl) (by kernel_rfl) HA_4 (y_ld Tryd.isAgg3 (by kernel_rfl) H) (fun x27 H => ?_)
      refine ls_p (d := some 28) (by kernel_rfl) (by kernel_rfl) (p_add (by kernel_rfl) (by kernel_rfl) H) (fun x28 H => ?_)
      refine ls_p (d := some 29) (by kernel_rfl) (by kernel_rfl) (p_off Tryd.underlying83 rfl (fun w => ⟨_, Tryd.sizeOf3 w⟩) rfl (by kernel_rfl) H) (fun x29 H => ?_)
      refine ls_y (d := some 30) (by kernel_rfl) (by kernel_rfl) HA_4 (y_ld Tryd.isAgg3 (by kernel_rfl) H) (fun x30 H => ?_)
      refine ls_p (d := some 31) (by kernel_rfl) (by kernel_rfl) (p_off Tryd.underlying83 rfl (fun w => ⟨_, Tryd.sizeOf3 w⟩) rfl (by kernel_rfl) H) (fun x31 H => ?_)
      refine ls_fr (b := ⟨#[x0, x1, x2, x3, x4, x5, x6, x7, x7, (D 0), (D 1), (D 2), x12, undef, x14, x15, x16, x17, x18, x19, x20, x21, x22, x23, x24, x25, x26, x27, x28, x29, x30, x31, undef, undef, undef, undef, undef, undef, undef, undef, undef, undef, undef, undef, undef, undef, undef], []⟩) (by kernel_rfl) ?_
      refine ls_y (d := some 32) (by kernel_rfl) (by kernel_rfl) HA_4 (y_ld Tryd.isAgg3 (by kernel_rfl) H) (fun x32 H => ?_)
      refine ls_p (d := some 33) (by kernel_rfl) (by kernel_rfl) (p_add (by kernel_rfl) (by kernel_rfl) H) (fun x33 H => ?_)
      refine ls_p (d := some 34) (by kernel_rfl) (by kernel_rfl) (p_min (by kernel_rfl) (by kernel_rfl) H) (fun x34 H => ?_)
      refine ls_p (d := some 35) (by kernel_rfl) (by kernel_rfl) (p_off Tryd.underlying83 rfl (fun w => ⟨_, Tryd.sizeOf3 w⟩) rfl (by kernel_rfl) H) (fun x35 H => ?_)
      refine ls_y (d := some 36) (by kernel_rfl) (by kernel_rfl) HA_4 (y_ld Tryd.isAgg3 (by kernel_rfl) H) (fun x36 H => ?_)
      refine ls_p (d := some 37) (by kernel_rfl) (by kernel_rfl) (p_off Tryd.underlying83 rfl (fun w => ⟨_, Tryd.sizeOf3 w⟩) rfl (by kernel_rfl) H) (fun x37 H => ?_)
      refine ls_fr (b := ⟨#[x0, x1, x2, x3, x4, x5, x6, x7, x7, (D 0), (D 1), (D 2), x12, undef, x14, x15, x16, x17, x18, x19, x20, x21, x22, x23, x24, x25, x26, x27, x28, x29, x30, x31, x32, x33, x34, x35, x36, x37, undef, undef, undef, undef, undef, undef, undef, undef, undef], []⟩) (by kernel_rfl) ?_
      refine ls_y (d := some 38) (by kernel_rfl) (by kernel_rfl) HA_4 (y_ld Tryd.isAgg3 (by kernel_rfl) H) (fun x38 H => ?_)
      refine ls_p (d := some 39) (by kernel_rfl) (by kernel_rfl) (p_add (by kernel_rfl) (by kernel_rfl) H) (fun x39 H => ?_)
      refine ls_p (d := some 40) (by kernel_rfl) (by kernel_rfl) (p_off Tryd.underlying83 rfl (fun w => ⟨_, Tryd.sizeOf3 w⟩) rfl (by kernel_rfl) H) (fun x40 H => ?_)
      refine ls_y (d := some 41) (by kernel_rfl) (by kernel_rfl) HA_4 (y_ld Tryd.isAgg3 (by kernel_rfl) H) (fun x41 H => ?_)
      refine ls_p (d := some 42) (by kernel_rfl) (by kernel_rfl) (p_off Tryd.underlying83 rfl (fun w => ⟨_, Tryd.sizeOf3 w⟩) rfl (by kernel_rfl) H) (fun x42 H => ?_)
      refine ls_y (d := some 43) (by kernel_rfl) (by kernel_rfl) HA_4 (y_ld Tryd.isAgg3 (by kernel_rfl) H) (fun x43 H => ?_)
      refine ls_fr (b := ⟨#[x0, x1, x2, x3, x4, x5, x6, x7, x7, (D 0), (D 1), (D 2), x12, undef, x14, x15, x16, x17, x18, x19, x20, x21, x22, x23, x24, x25, x26, x27, x28, x29, x30, x31, x32, x33, x34, x35, x36, x37, x38, x39, x40, x41, x42, x43, undef, undef, undef], []⟩) (by kernel_rfl) ?_
      refine ls_p (d := some 44) (by kernel_rfl) (by kernel_rfl) (p_add (by kernel_rfl) (by kernel_rfl) H) (fun x44 H => ?_)
      refine ls_p (d := some 45) (by kernel_rfl) (by kernel_rfl) (p_min (by kernel_rfl) (by kernel_rfl) H) (fun x45 H => ?_)
      refine ls_d (d := some 46) (by kernel_rfl) (by kernel_rfl) HA_4 (d_call (by kernel_rfl) (by kernel_rfl) H) (fun x46 h_6 w_6 H HA_6 => ?_)
      refine ls_d (d := none) (by kernel_rfl) (by kernel_rfl) HA_6 (d_stn Tryd.sizeOf83 (by kernel_rfl) (by kernel_rfl) H) (fun _ h_7 w_7 H HA_7 => ?_)
      refine ls_nil ?_
      refine then_normal ?_
      refine fr_eq (b := ⟨#[x0, x1, x2, x3, x4, x5, x6, x7, x7, (D 0), (D 1), (D 2), x12, undef, x14, x15, x16, x17, x18, x19, x20, x21, x22, x23, x24, x25, x26, x27, x28, x29, x30, x31, x32, x33, x34, x35, x36, x37, x38, x39, x40, x41, x42, x43, x44, x45, x46], []⟩) (by kernel_rfl) ?_
      refine wp_ret ?_
      obtain ⟨r4_1, hr4_1, H⟩ := ld_n Tryd.isAgg83 Tryd.sizeOf83 H
      exact endR (vs := [r4_1]) (Tryd.results91) (by kernel_rfl) ⟨⟨_, (by kernel_rfl), hr4_1⟩, trivial⟩ HA_7 H _ (.inr rfl)

end Go.Proofs.YtmhhjpfkipficaaDoor

end

section
/- The shallow reading of one function, and that the function does it. Written by a program. -/
set_option linter.unusedVariables false
namespace Go.Proofs.YtmhhjpfkipficaaDoor
open Go Go.HW

def rect_Area_S (x0 : Value) (h : Heap) (R : Value → Heap → Prop) : Prop :=
  sBox h x0 83 fun x1 h => 
  sLdN h x1 4 fun x3 =>
  rect_Right_c x3 h fun x4 h_1 => 
  sNot x4 fun x5 =>
  sOrH x5 h_1 (fun k =>
  sLdN h_1 x1 4 fun x7 =>
  rect_Empty_c x7 h_1 fun x8 h_3 => 
  k x8 h_3) fun x9 h_2 =>
  sIf x9 (R (.int .i64 0) h_2) (sOff x1 2 fun x10 =>
  sLd h_2 x10 fun x11 =>
  sOff x1 3 fun x12 =>
  sLd h_2 x12 fun x13 =>
  sMul .i64 x11 x13 fun x14 =>
  R x14 h_2)
set_option maxRecDepth 100000 in
theorem rect_Area_runs {x0 : Value} {h : Heap} {R : Value → Heap → Prop} (H : rect_Area_S x0 h R) : rect_Area_c x0 h R := by
  unfold rect_Area_S at H
  refine runs_of (b := ⟨#[x0, undef, undef, undef, undef, undef, undef, undef, undef, undef, undef, undef, undef, undef, undef], []⟩) Tryd.call92 Tryd.func92 rfl (by kernel_rfl) (fun w0 HA => ?_)
  refine wp_seq ?_
  refine lwp_list ?_
  refine ls_d (d := some 1) (by kernel_rfl) (by kernel_rfl) HA (d_box (by kernel_rfl) H) (fun x1 h w H HA => ?_)
  refine ls_assign (x := (.int .i64 0)) (by kernel_rfl) (by kernel_rfl) ?_
  refine ls_nil ?_
  refine then_normal ?_
  refine fr_eq (b := ⟨#[x0, x1, (.int .i64 0), undef, undef, undef, undef, undef, undef, undef, undef, undef, undef, undef, undef], []⟩) (by kernel_rfl) ?_
  refine wp_seq ?_
  refine wp_seq ?_
  refine lwp_list ?_
  refine ls_y (d := some 3) (by kernel_rfl) (by kernel_rfl) HA (y_ldn Tryd.isAgg83 Tryd.sizeOf83 (by kernel_rfl) H) (fun x3 H => ?_)
  refine ls_d (d := some 4) (by kernel_rfl) (by kernel_rfl) HA (d_call (by kernel_rfl) (by kernel_rfl) H) (fun x4 h_1 w_1 H HA_1 => ?_)
  refine ls_p (d := some 5) (by kernel_rfl) (by kernel_rfl) (p_not (by kernel_rfl) H) (fun x5 H => ?_)
  refine ls_move (x := x5) (by kernel_rfl) (by kernel_rfl) ?_
  refine ls_orh [(), (), ()] (fun K a w => ∃ (D : Nat → Value) (x9 : Value) (h_2 : Heap), a = ⟨#[x0, x1, (.int .i64 0), x3, x4, x5, x5, (D 0), (D 1), x9, undef, undef, undef, undef, undef], []⟩ ∧ At w0 w h_2 ∧ K x9 h_2) H (fun hb H => ?_) (fun hb H => ?_) ?_
  · refine ls_y (d := some 7) (by kernel_rfl) (by rw [hb]; kernel_rfl) HA_1 (y_ldn Tryd.isAgg83 Tryd.sizeOf83 (by kernel_rfl) H) (fun x7 H => ?_)
    refine ls_d (d := some 8) (by kernel_rfl) (by rw [hb]; kernel_rfl) HA_1 (d_call (by kernel_rfl) (by kernel_rfl) H) (fun x8 h_3 w_3 H HA_3 => ?_)
    refine ls_fr (b := ⟨#[x0, x1, (.int .i64 0), x3, x4, x5, x5, x7, x8, undef, undef, undef, undef, undef, undef], []⟩) (by kernel_rfl) ?_
    refine ls_pick_f (y := x8) (by kernel_rfl) (by rw [hb]; kernel_rfl) (by kernel_rfl) ?_
    refine ls_nil ?_
    refine then_normal ?_
    exact ⟨(fun i => ([x7, x8]).getD i undef), x8, h_3, by kernel_rfl, HA_3, H⟩
  · refine ls_skip (d := some 7) (by kernel_rfl) (by rw [hb]; kernel_rfl) ?_
    refine ls_skip (d := some 8) (by kernel_rfl) (by rw [hb]; kernel_rfl) ?_
    refine ls_fr (b := ⟨#[x0, x1, (.int .i64 0), x3, x4, x5, x5, undef, undef, undef, undef, undef, undef, undef, undef], []⟩) (by kernel_rfl) ?_
    refine ls_pick_t (x := (.bool true)) (by kernel_rfl) (by rw [hb]; kernel_rfl) (by kernel_rfl) ?_
    refine ls_nil ?_
    refine then_normal ?_
    exact ⟨(fun i => ([undef, undef]).getD i undef), (.bool true), h_1, by kernel_rfl, HA_1, H⟩
  · rintro _ w_2 ⟨D, x9, h_2, rfl, HA_2, H⟩
    refine ls_nil ?_
    refine then_normal ?_
    refine fr_eq (b := ⟨#[x0, x1, (.int .i64 0), x3, x4, x5, x5, (D 0), (D 1), x9, undef, undef, undef, undef, undef], []⟩) (by kernel_rfl) ?_
    refine wp_if rfl H (fun H => ?_) (fun H => ?_)
    · refine wp_seq ?_
      refine lwp_list ?_
      refine ls_assign (x := (.int .i64 0)) (by kernel_rfl) (by kernel_rfl) ?_
      refine ls_nil ?_
      refine then_normal ?_
      refine fr_eq (b := ⟨#[x0, x1, (.int .i64 0), x3, x4, x5, x5, (D 0), (D 1), x9, undef, undef, undef, undef, undef], []⟩) (by kernel_rfl) ?_
      refine wp_ret ?_
      refine then_ret ?_
      exact end1 (Tryd.results92) (by kernel_rfl) (by kernel_rfl) HA_2 H _ (.inr rfl)
    · refine wp_skip ?_
      refine then_normal ?_
      refine fr_eq (b := ⟨#[x0, x1, (.int .i64 0), x3, x4, x5, x5, (D 0), (D 1), x9, undef, undef, undef, undef, undef], []⟩) (by kernel_rfl) ?_
      refine wp_seq ?_
      refine lwp_list ?_
      refine ls_p (d := some 10) (by kernel_rfl) (by kernel_rfl) (p_off Tryd.underlying83 rfl (fun w => ⟨_, Tryd.sizeOf3 w⟩) rfl (by kernel_rfl) H) (fun x10 H => ?_)
      refine ls_y (d := some 11) (by kernel_rfl) (by kernel_rfl) HA_2 (y_ld Tryd.isAgg3 (by kernel_rfl) H) (fun x11 H => ?_)
      refine ls_p (d := some 12) (by kernel_rfl) (by kernel_rfl) (p_off Tryd.underlying83 rfl (fun w => ⟨_, Tryd.sizeOf3 w⟩) rfl (by kernel_rfl) H) (fun x12 H => ?_)
      refine ls_y (d := some 13) (by kernel_rfl) (by kernel_rfl) HA_2 (y_ld Tryd.isAgg3 (by kernel_rfl) H) (fun x13 H => ?_)
      refine ls_p (d := some 14) (by kernel_rfl) (by kernel_rfl) (p_mul (by kernel_rfl) (by kernel_rfl) H) (fun x14 H => ?_)
      refine ls_assign (x := x14) (by kernel_rfl) (by kernel_rfl) ?_
      refine ls_nil ?_
      refine then_normal ?_
      refine fr_eq (b := ⟨#[x0, x1, x14, x3, x4, x5, x5, (D 0), (D 1), x9, x10, x11, x12, x13, x14], []⟩) (by kernel_rfl) ?_
      refine wp_ret ?_
      exact end1 (Tryd.results92) (by kernel_rfl) (by kernel_rfl) HA_2 H _ (.inr rfl)

end Go.Proofs.YtmhhjpfkipficaaDoor

end

section
/- The shallow reading of one function, and that the function does it. Written by a program. -/
set_option linter.unusedVariables false
namespace Go.Proofs.YtmhhjpfkipficaaDoor
open Go Go.HW

def grid_near_S (x0 : Value) (h : Heap) (R : Value → Heap → Prop) : Prop :=
  sGe x0 (.int .i64 (-1073741824)) fun x4 =>
  sAnd x4 (fun k =>
  sLe x0 (.int .i64 1073741824) fun x7 =>
  k x7) fun x8 =>
  R x8 h
set_option maxRecDepth 100000 in
theorem grid_near_runs {x0 : Value} {h : Heap} {R : Value → Heap → Prop} (H : grid_near_S x0 h R) : grid_near_c x0 h R := by
  unfold grid_near_S at H
  refine runs_of (b := ⟨#[x0, undef, undef, undef, undef, undef, undef, undef, undef], []⟩) Tryd.call103 Tryd.func103 rfl (by kernel_rfl) (fun w0 HA => ?_)
  refine wp_seq ?_
  refine lwp_list ?_
  refine ls_assign (x := (.bool false)) (by kernel_rfl) (by kernel_rfl) ?_
  refine ls_nil ?_
  refine then_normal ?_
  refine fr_eq (b := ⟨#[x0, undef, (.bool false), undef, undef, undef, undef, undef, undef], []⟩) (by kernel_rfl) ?_
  refine wp_seq ?_
  refine lwp_list ?_
  refine ls_move (x := x0) (by kernel_rfl) (by kernel_rfl) ?_
  refine ls_p (d := some 4) (by kernel_rfl) (by kernel_rfl) (p_sGe (by kernel_rfl) (by kernel_rfl) H) (fun x4 H => ?_)
  refine ls_move (x := x4) (by kernel_rfl) (by kernel_rfl) ?_
  refine ls_and [(), (), ()] (fun K a w => ∃ (D : Nat → Value) (x8 : Value), a = ⟨#[x0, undef, (.bool false), x0, x4, x4, (D 0), (D 1), x8], []⟩ ∧ At w0 w h ∧ K x8) H (fun hb H => ?_) (fun hb H => ?_) ?_
  · refine ls_move (x := x0) (by rw [hb]; kernel_rfl) (by kernel_rfl) ?_
    refine ls_p (d := some 7) (by kernel_rfl) (by rw [hb]; kernel_rfl) (p_sLe (by kernel_rfl) (by kernel_rfl) H) (fun x7 H => ?_)
    refine ls_pick_t (x := x7) (by kernel_rfl) (by rw [hb]; kernel_rfl) (by kernel_rfl) ?_
    refine ls_nil ?_
    refine then_normal ?_
    exact ⟨(fun i => ([x0, x7]).getD i undef), x7, by kernel_rfl, HA, H⟩
  · refine ls_skip (d := some 6) (by kernel_rfl) (by rw [hb]; kernel_rfl) ?_
    refine ls_skip (d := some 7) (by kernel_rfl) (by rw [hb]; kernel_rfl) ?_
    refine ls_pick_f (y := (.bool false)) (by kernel_rfl) (by rw [hb]; kernel_rfl) (by kernel_rfl) ?_
    refine ls_nil ?_
    refine then_normal ?_
    exact ⟨(fun i => ([undef, undef]).getD i undef), (.bool false), by kernel_rfl, HA, H⟩
  · rintro _ w ⟨D, x8, rfl, HA, H⟩
    refine ls_assign (x := x8) (by kernel_rfl) (by kernel_rfl) ?_
    refine ls_nil ?_
    refine then_normal ?_
    refine fr_eq (b := ⟨#[x0, undef, x8, x0, x4, x4, (D 0), (D 1), x8], []⟩) (by kernel_rfl) ?_
    refine wp_ret ?_
    exact end1 (Tryd.results103) (by kernel_rfl) (by kernel_rfl) HA H _ (.inr rfl)

end Go.Proofs.YtmhhjpfkipficaaDoor

end

section
/- Rectangles, for grids. -/
set_option linter.unusedSimpArgs false
namespace Go.Proofs.YtmhhjpfkipficaaDoor
open Go Go.HW

structure Rc where
  x : Int
  y : Int
  w : Int
  h : Int

def Rc.c (r : Rc) : Array Value := #[.int .i64 r.x, .int .i64 r.y, .int .i64 r.w, .int .i64 r.h]
def Rc.v (r : Rc) : Value := .agg r.c
theorem Rc.cells (r : Rc) : r.v.cells = r.c := rfl
theorem Rc.cell1 (r : Rc) : ∀ u ∈ r.c.toList, Cell1 u := by intro u hu; simp [Rc.c] at hu; rcases hu with rfl | rfl | rfl | rfl <;> trivial

theorem Rc.ldn {h : Heap} {b t : Nat} {r : Rc} {K : Value → Prop} (hb : h.has b r.c t) : sLdN h (ptr b 0) 4 K = K r.v := ev_ldn_all (n := 4) hb rfl

def nearB (n : Int) : Bool := decide (-1073741824 ≤ n) && decide (n ≤ 1073741824)
def Rc.right (r : Rc) : Bool := ((((nearB r.x && nearB r.y) && nearB r.w) && nearB r.h) && decide (0 ≤ r.w)) && decide (0 ≤ r.h)
def Rc.Ok (r : Rc) : Prop := (-1073741824 ≤ r.x ∧ r.x ≤ 1073741824) ∧ (-1073741824 ≤ r.y ∧ r.y ≤ 1073741824) ∧ (0 ≤ r.w ∧ r.w ≤ 1073741824) ∧ (0 ≤ r.h ∧ r.h ≤ 1073741824)
theorem Rc.right_iff (r : Rc) : r.right = true ↔ r.Ok := by
  unfold Rc.right nearB Rc.Ok
  simp only [Bool.and_eq_true, decide_eq_true_eq]
  omega
def Rc.empty (r : Rc) : Bool := decide (r.w < 1) || decide (r.h < 1)
def mx (a b : Int) : Int := if a < b then b else a
def mn (a b : Int) : Int := if b < a then b else a
def rof (l t r b : Int) : Rc := if r ≤ l ∨ b ≤ t then ⟨0, 0, 0, 0⟩ else ⟨l, t, r - l, b - t⟩
def Rc.both (a b : Rc) : Rc := if a.right && b.right then rof (mx a.x b.x) (mx a.y b.y) (mn (a.x + a.w) (b.x + b.w)) (mn (a.y + a.h) (b.y + b.h)) else ⟨0, 0, 0, 0⟩

section
variable {h : Heap} {R : Value → Heap → Prop}
theorem rnear_spec {n : Int} (H : R (.bool (nearB n)) h) : rect_near_c (.int .i64 n) h R := by
  apply rect_near_runs
  unfold rect_near_S
  simp only [ev_ge, ev_le, ev_and_p]
  exact H
theorem rright_spec {r : Rc} (H : ∀ h', Ext h h' → R (.bool r.right) h') : rect_Right_c r.v h R := by
  apply rect_Right_runs
  unfold rect_Right_S
  refine box_intro r.cells (fun b h1 hb e1 b1 => ?_)
  rw [ev_off, ev_ld_has b1 rfl]
  refine rnear_spec ?_
  refine and_ext (fun _ K' HK => by rw [ev_off, ev_ld_has b1 rfl]; exact rnear_spec (HK _ (Ext.refl _))) (fun h2 e2 => ?_)
  refine and_ext (fun _ K' HK => by rw [ev_off, ev_ld_has (e2.has b1) rfl]; exact rnear_spec (HK _ (Ext.refl _))) (fun h3 e3 => ?_)
  have e3 := e2.trans e3
  refine and_ext (fun _ K' HK => by rw [ev_off, ev_ld_has (e3.has b1) rfl]; exact rnear_spec (HK _ (Ext.refl _))) (fun h4 e4 => ?_)
  have e4 := e3.trans e4
  simp only [ev_off, ev_ld, (e4.has b1).at, Rc.c, Nat.zero_add, List.getElem?_toArray, List.getElem?_cons_succ, List.getElem?_cons_zero, ev_ge, ev_and_p]
  exact H _ (e1.trans e4)
theorem rempty_spec {r : Rc} (H : ∀ h', Ext h h' → R (.bool r.empty) h') : rect_Empty_c r.v h R := by
  apply rect_Empty_runs
  unfold rect_Empty_S
  refine box_intro r.cells (fun b h1 hb e1 b1 => ?_)
  simp only [ev_off, ev_ld, b1.at, Rc.c, Nat.zero_add, List.getElem?_toArray, List.getElem?_cons_succ, List.getElem?_cons_zero, ev_lt, ev_or_p]
  exact H _ e1
theorem rof_spec {l t r b : Int} (w1 : IntKind.i64.wrap (r - l) = r - l) (w2 : IntKind.i64.wrap (b - t) = b - t) (H : ∀ h', Ext h h' → R (rof l t r b).v h') : rect_of_c (.int .i64 l) (.int .i64 t) (.int .i64 r) (.int .i64 b) h R := by
  apply rect_of_runs
  unfold rect_of_S
  refine new_intro (fun k h1 hk e1 b1 => ?_)
  simp only [ev_le, ev_or_p, ev_if, Bool.or_eq_true, decide_eq_true_eq]
  have fin : ∀ q : Rc, q = rof l t r b → sStN h1 (ptr k 0) q.v 4 fun h_1 => sLdN h_1 (ptr k 0) 4 fun r8 => R r8 h_1 := by
    rintro q rfl
    refine stn_intro b1 rfl rfl (Rc.cell1 _) (fun h2 b2 s2 o2 => ?_)
    rw [Rc.ldn b2]
    exact H _ (e1.off hk s2 o2)
  by_cases hc : r ≤ l ∨ b ≤ t
  · rw [if_pos hc]
    exact fin ⟨0, 0, 0, 0⟩ (by unfold rof; rw [if_pos hc])
  · rw [if_neg hc]
    simp only [ev_sub, w1, w2]
    refine ⟨rfl, Nat.le_of_ble_eq_true rfl, rfl, Nat.le_of_ble_eq_true rfl, rfl, Nat.le_of_ble_eq_true rfl, rfl, Nat.le_of_ble_eq_true rfl, ?_⟩
    exact fin ⟨l, t, r - l, b - t⟩ (by unfold rof; rw [if_neg hc])
theorem rboth_spec {a b : Rc} (H : ∀ h', Ext h h' → R (a.both b).v h') : rect_Both_c a.v b.v h R := by
  apply rect_Both_runs
  unfold rect_Both_S
  refine box_intro a.cells (fun ka h1 ha e1 b1 => ?_)
  refine box_intro b.cells (fun kb h2 hb e2 b2 => ?_)
  refine new_intro (fun kc h3 hc e3 b3 => ?_)
  have l1 := (e2.has b1).lt
  have l2 := b2.lt
  have b1 := e3.has (e2.has b1)
  have b2 := e3.has b2
  have e3 := (e1.trans e2).trans e3
  have fin : ∀ {h5 : Heap} (q : Rc), Ext h3 h5 → q = a.both b → sStN h5 (ptr kc 0) q.v 4 fun h_1 => sLdN h_1 (ptr kc 0) 4 fun r8 => R r8 h_1 := by
    rintro h5 q e5 rfl
    refine stn_intro (e5.has b3) rfl rfl (Rc.cell1 _) (fun h6 b6 s6 o6 => ?_)
    rw [Rc.ldn b6]
    have := e1.size
    have := e2.size
    exact H _ ((e3.trans e5).off (by omega) s6 o6)
  rw [Rc.ldn b1]
  refine rright_spec (fun h4 e4 => ?_)
  rw [ev_not]
  refine or_ext (y := !b.right) (fun _ K' HK => by
    rw [Rc.ldn (e4.has b2)]
    refine rright_spec (fun h5 e5 => ?_)
    rw [ev_not]; exact HK _ e5) (fun h5 e5 => ?_)
  have e5 := e4.trans e5
  rw [ev_if]
  by_cases hr : (a.right && b.right) = true
  · have hr' : (!a.right || !b.right) = false := by simpa using hr
    rw [hr', if_neg (by decide)]
    have hr2 := hr
    rw [Bool.and_eq_true, Rc.right_iff, Rc.right_iff] at hr2
    obtain ⟨⟨x1, x2, x3, x4⟩, y1, y2, y3, y4⟩ := hr2
    have w1 : IntKind.i64.wrap (a.x + a.w) = a.x + a.w := wrap_i64 (by omega) (by omega)
    have w2 : IntKind.i64.wrap (b.x + b.w) = b.x + b.w := wrap_i64 (by omega) (by omega)
    have w3 : IntKind.i64.wrap (a.y + a.h) = a.y + a.h := wrap_i64 (by omega) (by omega)
    have w4 : IntKind.i64.wrap (b.y + b.h) = b.y + b.h := wrap_i64 (by omega) (by omega)
    simp only [ev_off, ev_ld, (e5.has b1).at, (e5.has b2).at, Rc.c, Nat.zero_add, List.getElem?_toArray, List.getElem?_cons_succ, List.getElem?_cons_zero, ev_max, ev_min, ev_add, w1, w2, w3, w4]
    refine rof_spec (l := mx a.x b.x) (t := mx a.y b.y) (r := mn (a.x + a.w) (b.x + b.w)) (b := mn (a.y + a.h) (b.y + b.h)) ?_ ?_ (fun h6 e6 => ?_)
    · unfold mx mn; apply wrap_i64 <;> split <;> split <;> omega
    · unfold mx mn; apply wrap_i64 <;> split <;> split <;> omega
    · exact fin _ (e5.trans e6) (by unfold Rc.both; rw [if_pos hr])
  · have hr' : (!a.right || !b.right) = true := by
      cases h1 : a.right <;> cases h2 : b.right <;> simp [h1, h2] at hr ⊢
    rw [hr', if_pos rfl]
    refine fin ⟨0, 0, 0, 0⟩ e5 (by unfold Rc.both; rw [if_neg hr])
def Rc.area (r : Rc) : Int := if (!r.right || r.empty) = true then 0 else r.w * r.h
theorem rarea_spec {r : Rc} (H : ∀ h', Ext h h' → R (.int .i64 r.area) h') : rect_Area_c r.v h R := by
  apply rect_Area_runs
  unfold rect_Area_S
  refine (HW.Sep.start h).box (c := r.c) r.cells (fun b h1 s1 => ?_)
  rw [s1.ldall (n := 4) rfl]
  refine rright_spec (fun h2 e2 => ?_)
  have s2 := s1.ext' e2
  rw [ev_not]
  refine or_ext (y := r.empty) (fun _ K' HK => by
    rw [s2.ldall (n := 4) rfl]
    exact rempty_spec (fun h3 e3 => HK _ e3)) (fun h3 e3 => ?_)
  have s3 := s2.ext' e3
  rw [ev_if]
  unfold Rc.area at H
  by_cases hc : (!r.right || r.empty) = true
  · rw [if_pos hc] at H ⊢
    exact H _ s3.ext
  · rw [if_neg hc] at H ⊢
    have f2 : ∀ {K : Value → Prop}, sLd h3 (ptr b 2) K = K (.int .i64 r.w) := s3.ld rfl
    have f3 : ∀ {K : Value → Prop}, sLd h3 (ptr b 3) K = K (.int .i64 r.h) := s3.ld rfl
    have hr : r.right = true := by cases h : r.right <;> simp [h] at hc ⊢
    obtain ⟨x1, x2, x3, x4⟩ := (Rc.right_iff r).1 hr
    have m0 : 0 ≤ r.w * r.h := Int.mul_nonneg x3.1 x4.1
    have m1 : r.w * r.h ≤ 1073741824 * 1073741824 := Int.mul_le_mul x3.2 x4.2 x4.1 (by decide)
    simp only [ev_off, Nat.zero_add, f2, f3, ev_mul]
    rw [wrap_i64 (by omega) (by omega)]
    exact H _ s3.ext
theorem gnear_spec {n : Int} (H : R (.bool (nearB n)) h) : grid_near_c (.int .i64 n) h R := by
  apply grid_near_runs
  unfold grid_near_S
  simp only [ev_ge, ev_le, ev_and_p]
  exact H
end
end Go.Proofs.YtmhhjpfkipficaaDoor

end

section
/- The shallow reading of one function, and that the function does it. Written by a program. -/
set_option linter.unusedVariables false
namespace Go.Proofs.YtmhhjpfkipficaaDoor
open Go Go.HW

def grid_Grid_Blit_l4 (R : Value → Heap → Prop) (x1 x12 x13 x100 : Value) (next : Value → Heap → Prop) (x101 : Value) (h_15 : Heap) : Prop :=
  sLt x101 x100 fun x102 =>
  sIf x102 (sIxS x13 x101 1 fun x104 =>
  sLd h_15 x104 fun x105 =>
  ∃ C_2 : Heap → Prop, C_2 h_15 ∧ (sOff x12 1 fun x107 =>
  sLd h_15 x107 fun x108 =>
  sAdd .i64 x108 x101 fun x110 =>
  grid_Grid_row_c x1 x110 h_15 fun x111 h_16 => C_2 h_16 ∧ (
  sOff x12 0 fun x112 =>
  sLdC C_2 x112 fun x113 =>
  sSl x111 (some x113) none 4 fun x114 =>
  sCopy h_16 x114 x105 4 fun x116 h_17 => 
  sAdd .i64 x101 (.int .i64 1) fun x117 =>
  next x117 h_17))) (sLdN h_15 x12 4 fun x118 =>
  rect_Area_c x118 h_15 fun x119 h_18 => 
  R x119 h_18)
def grid_Grid_Blit_l3 (R : Value → Heap → Prop) (x0 x1 x3 x4 x7 x12 x66 : Value) (next : Value → Value → Heap → Prop) (x13 x67 : Value) (h_10 : Heap) : Prop :=
  sLt x67 x66 fun x68 =>
  sIf x68 (sOff x12 0 fun x70 =>
  sLd h_10 x70 fun x71 =>
  sSub .i64 x71 x3 fun x73 =>
  sOff x7 0 fun x74 =>
  sLd h_10 x74 fun x75 =>
  sAdd .i64 x73 x75 fun x76 =>
  ∃ C_1 : Heap → Prop, C_1 h_10 ∧ (sOff x12 1 fun x79 =>
  sLd h_10 x79 fun x80 =>
  sSub .i64 x80 x4 fun x82 =>
  sOff x7 1 fun x83 =>
  sLd h_10 x83 fun x84 =>
  sAdd .i64 x82 x84 fun x85 =>
  sAdd .i64 x85 x67 fun x87 =>
  grid_Grid_row_c x0 x87 h_10 fun x88 h_11 => C_1 h_11 ∧ (
  sOff x12 2 fun x91 =>
  sLdC C_1 x91 fun x92 =>
  sAdd .i64 x76 x92 fun x93 =>
  sSl x88 (some x76) (some x93) 4 fun x94 =>
  slices_Clone_api_Cell_api_Cell_c x94 h_11 fun x95 h_12 => 
  sSlit h_12 #[.slice none 0 0] [(0, 1, x95)] 32 1 fun x96 h_13 => 
  sApp h_13 x13 x96 #[.slice none 0 0] 32 24 fun x97 h_14 => 
  sAdd .i64 x67 (.int .i64 1) fun x98 =>
  next x97 x98 h_14))) (sLen x13 fun x100 =>
  sLoop (S := Value) (fun nxt s h => grid_Grid_Blit_l4 R x1 x12 x13 x100 (fun x101' h => nxt x101' h) s h) (.int .i64 0) h_10)
def grid_Grid_Blit_j2 (R : Value → Heap → Prop) (x0 x1 x3 x4 x7 x11 x12 : Value) (h_7 : Heap) : Prop :=
  sLdN h_7 x11 4 fun x59 =>
  rect_Empty_c x59 h_7 fun x60 h_8 => 
  sOrH x60 h_8 (fun k =>
  sLdN h_8 x12 4 fun x62 =>
  rect_Empty_c x62 h_8 fun x63 h_19 => 
  k x63 h_19) fun x64 h_9 =>
  sIf x64 (R (.int .i64 0) h_9) (sOff x12 3 fun x65 =>
  sLd h_9 x65 fun x66 =>
  sLoop (S := Value × Value) (fun nxt s h => grid_Grid_Blit_l3 R x0 x1 x3 x4 x7 x12 x66 (fun x13' x67' h => nxt (x13', x67') h) s.1 s.2 h) ((.slice none 0 0), (.int .i64 0)) h_9)
def grid_Grid_Blit_j1 (R : Value → Heap → Prop) (x0 x1 x3 x4 x7 x11 : Value) (h_4 : Heap) : Prop :=
  ∃ C : Heap → Prop, C h_4 ∧ (sOff x11 0 fun x39 =>
  sLd h_4 x39 fun x40 =>
  sAdd .i64 x40 x3 fun x42 =>
  sOff x7 0 fun x43 =>
  sLd h_4 x43 fun x44 =>
  sSub .i64 x42 x44 fun x45 =>
  sOff x11 1 fun x46 =>
  sLd h_4 x46 fun x47 =>
  sAdd .i64 x47 x4 fun x49 =>
  sOff x7 1 fun x50 =>
  sLdC C x50 fun x51 =>
  sSub .i64 x49 x51 fun x52 =>
  sOff x11 0 fun x53 =>
  sSt h_4 x53 x45 fun h_5 => C h_5 ∧ (
  sOff x11 1 fun x54 =>
  sSt h_5 x54 x52 fun h_6 => 
  ∃ C_3 : Heap → Prop, C_3 h_6 ∧ (sLdNC C_3 x11 4 fun x55 =>
  (grid_Grid_all_c x1 h_6 fun x57 h_20 => C_3 h_20 ∧ (
  (rect_Both_c x55 x57 h_20 fun x58 h_21 => 
  sNew h_21 #[.int .i64 0, .int .i64 0, .int .i64 0, .int .i64 0] 83 fun x12_1 h_22 => C_3 h_22 ∧ (
  sStN h_22 x12_1 x58 4 fun h_23 => 
  grid_Grid_Blit_j2 R x0 x1 x3 x4 x7 x11 x12_1 h_23)) ∧
  (sNew h_20 #[.int .i64 0, .int .i64 0, .int .i64 0, .int .i64 0] 83 fun x12_2 h_24 => C_3 h_24 ∧ (
  rect_Both_c x55 x57 h_24 fun x58_1 h_25 => 
  sStN h_25 x12_2 x58_1 4 fun h_26 => 
  grid_Grid_Blit_j2 R x0 x1 x3 x4 x7 x11 x12_2 h_26)))) ∧
  (sNew h_6 #[.int .i64 0, .int .i64 0, .int .i64 0, .int .i64 0] 83 fun x12_3 h_27 => C_3 h_27 ∧ (
  grid_Grid_all_c x1 h_27 fun x57_1 h_28 => C_3 h_28 ∧ (
  rect_Both_c x55 x57_1 h_28 fun x58_2 h_29 => 
  sStN h_29 x12_3 x58_2 4 fun h_30 => 
  grid_Grid_Blit_j2 R x0 x1 x3 x4 x7 x11 x12_3 h_30))))))
def grid_Grid_Blit_S (x0 x1 x2 x3 x4 : Value) (h : Heap) (R : Value → Heap → Prop) : Prop :=
  sBox h x2 83 fun x7 h => 
  sEqlNil x1 fun x19 =>
  sOrH x19 h (fun k_3 =>
  sLdN h x7 4 fun x21 =>
  rect_Right_c x21 h fun x22 h_44 => 
  sNot x22 fun x23 =>
  k_3 x23 h_44) fun x24 h_1 =>
  sOrH x24 h_1 (fun k_2 =>
  grid_near_c x3 h_1 fun x27 h_43 => 
  sNot x27 fun x28 =>
  k_2 x28 h_43) fun x29 h_2 =>
  sOrH x29 h_2 (fun k_1 =>
  grid_near_c x4 h_2 fun x32 h_42 => 
  sNot x32 fun x33 =>
  k_1 x33 h_42) fun x34 h_3 =>
  sIf x34 (R (.int .i64 0) h_3) (∃ C_4 : Heap → Prop, C_4 h_3 ∧ (sLdNC C_4 x7 4 fun x35 =>
  (grid_Grid_all_c x0 h_3 fun x37 h_31 => C_4 h_31 ∧ (
  (rect_Both_c x35 x37 h_31 fun x38 h_32 => 
  sNew h_32 #[.int .i64 0, .int .i64 0, .int .i64 0, .int .i64 0] 83 fun x11_1 h_33 => C_4 h_33 ∧ (
  sStN h_33 x11_1 x38 4 fun h_34 => 
  grid_Grid_Blit_j1 R x0 x1 x3 x4 x7 x11_1 h_34)) ∧
  (sNew h_31 #[.int .i64 0, .int .i64 0, .int .i64 0, .int .i64 0] 83 fun x11_2 h_35 => C_4 h_35 ∧ (
  rect_Both_c x35 x37 h_35 fun x38_1 h_36 => 
  sStN h_36 x11_2 x38_1 4 fun h_37 => 
  grid_Grid_Blit_j1 R x0 x1 x3 x4 x7 x11_2 h_37)))) ∧
  (sNew h_3 #[.int .i64 0, .int .i64 0, .int .i64 0, .int .i64 0] 83 fun x11_3 h_38 => C_4 h_38 ∧ (
  grid_Grid_all_c x0 h_38 fun x37_1 h_39 => C_4 h_39 ∧ (
  rect_Both_c x35 x37_1 h_39 fun x38_2 h_40 => 
  sStN h_40 x11_3 x38_2 4 fun h_41 => 
  grid_Grid_Blit_j1 R x0 x1 x3 x4 x7 x11_3 h_41)))))
set_option maxHeartbeats 4000000 in
set_option maxRecDepth 100000 in
theorem grid_Grid_Blit_runs {x0 x1 x2 x3 x4 : Value} {h : Heap} {R : Value → Heap → Prop} (H : grid_Grid_Blit_S x0 x1 x2 x3 x4 h R) : grid_Grid_Blit_c x0 x1 x2 x3 x4 h R := by
  unfold grid_Grid_Blit_S at H
  refine runs_of (b := ⟨([x0, x1, x2, x3, x4, undef, undef, undef, undef, undef, undef, undef, undef, undef, undef, undef, undef, undef, undef, undef, undef, undef, undef, undef, undef, undef, undef, undef, undef, undef, undef, undef, undef, undef, undef, undef, undef, undef, undef, undef, undef, undef, undef, undef, undef, undef, undef, undef, undef, undef] ++ [undef, undef, undef, undef, undef, undef, undef, undef, undef, undef, undef, undef, undef, undef, undef, undef, undef, undef, undef, undef, undef, undef, undef, undef, undef, undef, undef, undef, undef, undef, undef, undef, undef, undef, undef, undef, undef, undef, undef, undef, undef, undef, undef, undef, undef, undef, undef, undef, undef, undef] ++ [undef, undef, undef, undef, undef, undef, undef, undef, undef, undef, undef, undef, undef, undef, undef, undef, undef, undef, undef, undef]).toArray, []⟩) Tryd.call97 Tryd.func97 rfl (by kernel_rfl) (fun w0 HA => ?_)
  refine wp_seq ?_
  refine lwp_list ?_
  refine ls_d (d := some 7) (by kernel_rfl) (by kernel_rfl) HA (d_box (by kernel_rfl) H) (fun x7 h w H HA => ?_)
  refine ls_assign (x := (.int .i64 0)) (by kernel_rfl) (by kernel_rfl) ?_
  refine ls_nil ?_
  refine then_normal ?_
  refine fr_eq (b := ⟨([x0, x1, x2, x3, x4, undef, undef, x7, undef, undef, (.int .i64 0), undef, undef, undef, undef, undef, undef, undef, undef, undef, undef, undef, undef, undef, undef, undef, undef, undef, undef, undef, undef, undef, undef, undef, undef, undef, undef, undef, undef, undef, undef, undef, undef, undef, undef, undef, undef, undef, undef, undef] ++ [undef, undef, undef, undef, undef, undef, undef, undef, undef, undef, undef, undef, undef, undef, undef, undef, undef, undef, undef, undef, undef, undef, undef, undef, undef, undef, undef, undef, undef, undef, undef, undef, undef, undef, undef, undef, undef, undef, undef, undef, undef, undef, undef, undef, undef, undef, undef, undef, undef, undef] ++ [undef, undef, undef, undef, undef, undef, undef, undef, undef, undef, undef, undef, undef, undef, undef, undef, undef, undef, undef, undef]).toArray, []⟩) (by kernel_rfl) ?_
  refine wp_seq ?_
  refine wp_seq ?_
  refine lwp_list ?_
  refine ls_move (x := x1) (by kernel_rfl) (by kernel_rfl) ?_
  refine ls_p (d := some 19) (by kernel_rfl) (by kernel_rfl) (p_eqlNil Tryd.underlying54 (by kernel_rfl) (by kernel_rfl) H) (fun x19 H => ?_)
  refine ls_move (x := x19) (by kernel_rfl) (by kernel_rfl) ?_
  refine ls_orh [(), (), (), ()] (fun K a w => ∃ (D : Nat → Value) (x24 : Value) (h_1 : Heap), a = ⟨([x0, x1, x2, x3, x4, undef, undef, x7, undef, undef, (.int .i64 0), undef, undef, undef, undef, undef, undef, undef, x1, x19, x19, (D 0), (D 1), (D 2), x24, undef, undef, undef, undef, undef, undef, undef, undef, undef, undef, undef, undef, undef, undef, undef, undef, undef, undef, undef, undef, undef, undef, undef, undef, undef] ++ [undef, undef, undef, undef, undef, undef, undef, undef, undef, undef, undef, undef, undef, undef, undef, undef, undef, undef, undef, undef, undef, undef, undef, undef, undef, undef, undef, undef, undef, undef, undef, undef, undef, undef, undef, undef, undef, undef, undef, undef, undef, undef, undef, undef, undef, undef, undef, undef, undef, undef] ++ [undef, undef, undef, undef, undef, undef, undef, undef, undef, undef, undef, undef, undef, undef, undef, undef, undef, undef, undef, undef]).toArray, []⟩ ∧ At w0 w h_1 ∧ K x24 h_1) H (fun hb_3 H => ?_) (fun hb_3 H => ?_) ?_
  · refine ls_y (d := some 21) (by kernel_rfl) (by rw [hb_3]; kernel_rfl) HA (y_ldn Tryd.isAgg83 Tryd.sizeOf83 (by kernel_rfl) H) (fun x21 H => ?_)
    refine ls_d (d := some 22) (by kernel_rfl) (by rw [hb_3]; kernel_rfl) HA (d_call (by kernel_rfl) (by kernel_rfl) H) (fun x22 h_44 w_49 H HA_49 => ?_)
    refine ls_p (d := some 23) (by kernel_rfl) (by rw [hb_3]; kernel_rfl) (p_not (by kernel_rfl) H) (fun x23 H => ?_)
    refine ls_fr (b := ⟨([x0, x1, x2, x3, x4, undef, undef, x7, undef, undef, (.int .i64 0), undef, undef, undef, undef, undef, undef, undef, x1, x19, x19, x21, x22, x23, undef, undef, undef, undef, undef, undef, undef, undef, undef, undef, undef, undef, undef, undef, undef, undef, undef, undef, undef, undef, undef, undef, undef, undef, undef, undef] ++ [undef, undef, undef, undef, undef, undef, undef, undef, undef, undef, undef, undef, undef, undef, undef, undef, undef, undef, undef, undef, undef, undef, undef, undef, undef, undef, undef, undef, undef, undef, undef, undef, undef, undef, undef, undef, undef, undef, undef, undef, undef, undef, undef, undef, undef, undef, undef, undef, undef, undef] ++ [undef, undef, undef, undef, undef, undef, undef, undef, undef, undef, undef, undef, undef, undef, undef, undef, undef, undef, undef, undef]).toArray, []⟩) (by kernel_rfl) ?_
    refine ls_pick_f (y := x23) (by kernel_rfl) (by rw [hb_3]; kernel_rfl) (by kernel_rfl) ?_
    refine ls_nil ?_
    refine then_normal ?_
    exact ⟨(fun i => ([x21, x22, x23]).getD i undef), x23, h_44, by kernel_rfl, HA_49, H⟩
  · refine ls_skip (d := some 21) (by kernel_rfl) (by rw [hb_3]; kernel_rfl) ?_
    refine ls_skip (d := some 22) (by kernel_rfl) (by rw [hb_3]; kernel_rfl) ?_
    refine ls_skip (d := some 23) (by kernel_rfl) (by rw [hb_3]; kernel_rfl) ?_
    refine ls_fr (b := ⟨([x0, x1, x2, x3, x4, undef, undef, x7, undef, undef, (.int .i64 0), undef, undef, undef, undef, undef, undef, undef, x1, x19, x19, undef, undef, undef, undef, undef, undef, undef, undef, undef, undef, undef, undef, undef, undef, undef, undef, undef, undef, undef, undef, undef, undef, undef, undef, undef, undef, undef, undef, undef] ++ [undef, undef, undef, undef, undef, undef, undef, undef, undef, undef, undef, undef, undef, undef, undef, undef, undef, undef, undef, undef, undef, undef, undef, undef, undef, undef, undef, undef, undef, undef, undef, undef, undef, undef, undef, undef, undef, undef, undef, undef, undef, undef, undef, undef, undef, undef, undef, undef, undef, undef] ++ [undef, undef, undef, undef, undef, undef, undef, undef, undef, undef, undef, undef, undef, undef, undef, undef, undef, undef, undef, undef]).toArray, []⟩) (by kernel_rfl) ?_
    refine ls_pick_t (x := (.bool true)) (by kernel_rfl) (by rw [hb_3]; kernel_rfl) (by kernel_rfl) ?_
    refine ls_nil ?_
    refine then_normal ?_
    exact ⟨(fun i => ([undef, undef, undef]).getD i undef), (.bool true), h, by kernel_rfl, HA, H⟩
  · rintro _ w_1 ⟨D, x24, h_1, rfl, HA_1, H⟩
    refine ls_move (x := x24) (by kernel_rfl) (by kernel_rfl) ?_
    refine ls_orh [(), (), (), ()] (fun K a w => ∃ (D_1 : Nat → Value) (x29 : Value) (h_2 : Heap), a = ⟨([x0, x1, x2, x3, x4, undef, undef, x7, undef, undef, (.int .i64 0), undef, undef, undef, undef, undef, undef, undef, x1, x19, x19, (D 0), (D 1), (D 2), x24, x24, (D_1 0), (D_1 1), (D_1 2), x29, undef, undef, undef, undef, undef, undef, undef, undef, undef, undef, undef, undef, undef, undef, undef, undef, undef, undef, undef, undef] ++ [undef, undef, undef, undef, undef, undef, undef, undef, undef, undef, undef, undef, undef, undef, undef, undef, undef, undef, undef, undef, undef, undef, undef, undef, undef, undef, undef, undef, undef, undef, undef, undef, undef, undef, undef, undef, undef, undef, undef, undef, undef, undef, undef, undef, undef, undef, undef, undef, undef, undef] ++ [undef, undef, undef, undef, undef, undef, undef, undef, undef, undef, undef, undef, undef, undef, undef, undef, undef, undef, undef, undef]).toArray, []⟩ ∧ At w0 w h_2 ∧ K x29 h_2) H (fun hb_2 H => ?_) (fun hb_2 H => ?_) ?_
    · refine ls_move (x := x3) (by rw [hb_2]; kernel_rfl) (by kernel_rfl) ?_
      refine ls_d (d := some 27) (by kernel_rfl) (by rw [hb_2]; kernel_rfl) HA_1 (d_call (by kernel_rfl) (by kernel_rfl) H) (fun x27 h_43 w_48 H HA_48 => ?_)
      refine ls_p (d := some 28) (by kernel_rfl) (by rw [hb_2]; kernel_rfl) (p_not (by kernel_rfl) H) (fun x28 H => ?_)
      refine ls_pick_f (y := x28) (by kernel_rfl) (by rw [hb_2]; kernel_rfl) (by kernel_rfl) ?_
      refine ls_nil ?_
      refine then_normal ?_
      exact ⟨(fun i => ([x3, x27, x28]).getD i undef), x28, h_43, by kernel_rfl, HA_48, H⟩
    · refine ls_skip (d := some 26) (by kernel_rfl) (by rw [hb_2]; kernel_rfl) ?_
      refine ls_skip (d := some 27) (by kernel_rfl) (by rw [hb_2]; kernel_rfl) ?_
      refine ls_skip (d := some 28) (by kernel_rfl) (by rw [hb_2]; kernel_rfl) ?_
      refine ls_pick_t (x := (.bool true)) (by kernel_rfl) (by rw [hb_2]; kernel_rfl) (by kernel_rfl) ?_
      refine ls_nil ?_
      refine then_normal ?_
      exact ⟨(fun i => ([undef, undef, undef]).getD i undef), (.bool true), h_1, by kernel_rfl, HA_1, H⟩
    · rintro _ w_2 ⟨D_1, x29, h_2, rfl, HA_2, H⟩
      refine ls_move (x := x29) (by kernel_rfl) (by kernel_rfl) ?_
      refine ls_orh [(), (), (), ()] (fun K a w => ∃ (D_2 : Nat → Value) (x34 : Value) (h_3 : Heap), a = ⟨([x0, x1, x2, x3, x4, undef, undef, x7, undef, undef, (.int .i64 0), undef, undef, undef, undef, undef, undef, undef, x1, x19, x19, (D 0), (D 1), (D 2), x24, x24, (D_1 0), (D_1 1), (D_1 2), x29, x29, (D_2 0), (D_2 1), (D_2 2), x34, undef, undef, undef, undef, undef, undef, undef, undef, undef, undef, undef, undef, undef, undef, undef] ++ [undef, undef, undef, undef, undef, undef, undef, undef, undef, undef, undef, undef, undef, undef, undef, undef, undef, undef, undef, undef, undef, undef, undef, undef, undef, undef, undef, undef, undef, undef, undef, undef, undef, undef, undef, undef, undef, undef, undef, undef, undef, undef, undef, undef, undef, undef, undef, undef, undef, undef] ++ [undef, undef, undef, undef, undef, undef, undef, undef, undef, undef, undef, undef, undef, undef, undef, undef, undef, undef, undef, undef]).toArray, []⟩ ∧ At w0 w h_3 ∧ K x34 h_3) H (fun hb_1 H => ?_) (fun hb_1 H => ?_) ?_
      · refine ls_move (x := x4) (by rw [hb_1]; kernel_rfl) (by kernel_rfl) ?_
        refine ls_d (d := some 32) (by kernel_rfl) (by rw [hb_1]; kernel_rfl) HA_2 (d_call (by kernel_rfl) (by kernel_rfl) H) (fun x32 h_42 w_47 H HA_47 => ?_)
        refine ls_p (d := some 33) (by kernel_rfl) (by rw [hb_1]; kernel_rfl) (p_not (by kernel_rfl) H) (fun x33 H => ?_)
        refine ls_pick_f (y := x33) (by kernel_rfl) (by rw [hb_1]; kernel_rfl) (by kernel_rfl) ?_
        refine ls_nil ?_
        refine then_normal ?_
        exact ⟨(fun i => ([x4, x32, x33]).getD i undef), x33, h_42, by kernel_rfl, HA_47, H⟩
      · refine ls_skip (d := some 31) (by kernel_rfl) (by rw [hb_1]; kernel_rfl) ?_
        refine ls_skip (d := some 32) (by kernel_rfl) (by rw [hb_1]; kernel_rfl) ?_
        refine ls_skip (d := some 33) (by kernel_rfl) (by rw [hb_1]; kernel_rfl) ?_
        refine ls_pick_t (x := (.bool true)) (by kernel_rfl) (by rw [hb_1]; kernel_rfl) (by kernel_rfl) ?_
        refine ls_nil ?_
        refine then_normal ?_
        exact ⟨(fun i => ([undef, undef, undef]).getD i undef), (.bool true), h_2, by kernel_rfl, HA_2, H⟩
      · rintro _ w_3 ⟨D_2, x34, h_3, rfl, HA_3, H⟩
        refine ls_nil ?_
        refine then_normal ?_
        refine fr_eq (b := ⟨([x0, x1, x2, x3, x4, undef, undef, x7, undef, undef, (.int .i64 0), undef, undef, undef, undef, undef, undef, undef, x1, x19, x19, (D 0), (D 1), (D 2), x24, x24, (D_1 0), (D_1 1), (D_1 2), x29, x29, (D_2 0), (D_2 1), (D_2 2), x34, undef, undef, undef, undef, undef, undef, undef, undef, undef, undef, undef, undef, undef, undef, undef] ++ [undef, undef, undef, undef, undef, undef, undef, undef, undef, undef, undef, undef, undef, undef, undef, undef, undef, undef, undef, undef, undef, undef, undef, undef, undef, undef, undef, undef, undef, undef, undef, undef, undef, undef, undef, undef, undef, undef, undef, undef, undef, undef, undef, undef, undef, undef, undef, undef, undef, undef] ++ [undef, undef, undef, undef, undef, undef, undef, undef, undef, undef, undef, undef, undef, undef, undef, undef, undef, undef, undef, undef]).toArray, []⟩) (by kernel_rfl) ?_
        refine wp_if rfl H (fun H => ?_) (fun H => ?_)
        · refine wp_seq ?_
          refine lwp_list ?_
          refine ls_assign (x := (.int .i64 0)) (by kernel_rfl) (by kernel_rfl) ?_
          refine ls_nil ?_
          refine then_normal ?_
          refine fr_eq (b := ⟨([x0, x1, x2, x3, x4, undef, undef, x7, undef, undef, (.int .i64 0), undef, undef, undef, undef, undef, undef, undef, x1, x19, x19, (D 0), (D 1), (D 2), x24, x24, (D_1 0), (D_1 1), (D_1 2), x29, x29, (D_2 0), (D_2 1), (D_2 2), x34, undef, undef, undef, undef, undef, undef, undef, undef, undef, undef, undef, undef, undef, undef, undef] ++ [undef, undef, undef, undef, undef, undef, undef, undef, undef, undef, undef, undef, undef, undef, undef, undef, undef, undef, undef, undef, undef, undef, undef, undef, undef, undef, undef, undef, undef, undef, undef, undef, undef, undef, undef, undef, undef, undef, undef, undef, undef, undef, undef, undef, undef, undef, undef, undef, undef, undef] ++ [undef, undef, undef, undef, undef, undef, undef, undef, undef, undef, undef, undef, undef, undef, undef, undef, undef, undef, undef, undef]).toArray, []⟩) (by kernel_rfl) ?_
          refine wp_ret ?_
          refine then_ret ?_
          exact end1 (Tryd.results97) (by kernel_rfl) (by kernel_rfl) HA_3 H _ (.inr rfl)
        · refine wp_skip ?_
          refine then_normal ?_
          refine fr_eq (b := ⟨([x0, x1, x2, x3, x4, undef, undef, x7, undef, undef, (.int .i64 0), undef, undef, undef, undef, undef, undef, undef, x1, x19, x19, (D 0), (D 1), (D 2), x24, x24, (D_1 0), (D_1 1), (D_1 2), x29, x29, (D_2 0), (D_2 1), (D_2 2), x34, undef, undef, undef, undef, undef, undef, undef, undef, undef, undef, undef, undef, undef, undef, undef] ++ [undef, undef, undef, undef, undef, undef, undef, undef, undef, undef, undef, undef, undef, undef, undef, undef, undef, undef, undef, undef, undef, undef, undef, undef, undef, undef, undef, undef, undef, undef, undef, undef, undef, undef, undef, undef, undef, undef, undef, undef, undef, undef, undef, undef, undef, undef, undef, undef, undef, undef] ++ [undef, undef, undef, undef, undef, undef, undef, undef, undef, undef, undef, undef, undef, undef, undef, undef, undef, undef, undef, undef]).toArray, []⟩) (by kernel_rfl) ?_
          refine wp_seq ?_
          refine wp_join (fun a w => ∃ (D_3 : Nat → Value) (x11 : Value) (h_4 : Heap), a = ⟨([x0, x1, x2, x3, x4, undef, undef, x7, undef, undef, (.int .i64 0), x11, undef, undef, undef, undef, undef, undef, x1, x19, x19, (D 0), (D 1), (D 2), x24, x24, (D_1 0), (D_1 1), (D_1 2), x29, x29, (D_2 0), (D_2 1), (D_2 2), x34, (D_3 0), (D_3 1), (D_3 2), (D_3 3), undef, undef, undef, undef, undef, undef, undef, undef, undef, undef, undef] ++ [undef, undef, undef, undef, undef, undef, undef, undef, undef, undef, undef, undef, undef, undef, undef, undef, undef, undef, undef, undef, undef, undef, undef, undef, undef, undef, undef, undef, undef, undef, undef, undef, undef, undef, undef, undef, undef, undef, undef, undef, undef, undef, undef, undef, undef, undef, undef, undef, undef, undef] ++ [undef, undef, undef, undef, undef, undef, undef, undef, undef, undef, undef, undef, undef, undef, undef, undef, undef, undef, undef, undef]).toArray, []⟩ ∧ At w0 w h_4 ∧ grid_Grid_Blit_j1 R x0 x1 x3 x4 x7 x11 h_4) ?_ ?_
          · obtain ⟨C_4, HC, H⟩ := H
            refine lwp_pl (Nat.testBit 60) (Nat.testBit 20) (Nat.testBit 2) [0, 0, 2, 7, 0, 31] (Nat.testBit 0) C_4 (.op 0 (.op 1 (.alt (.op 2 (.alt (.op 3 (.op 4 (.op 5 .done))) (.op 4 (.op 3 (.op 5 .done))))) (.op 4 (.op 2 (.op 3 (.op 5 .done))))))) (by kernel_rfl) (by kernel_rfl) (by kernel_rfl) HA_3 HC ?_
            intro w_35 HA_35
            refine lp_f (d := some 35) (by kernel_rfl) rfl (by kernel_rfl) (by kernel_rfl) (by kernel_rfl) (by kernel_rfl) (c_ldn Tryd.isAgg83 Tryd.sizeOf83 (by kernel_rfl) H) (fun x35 H => ?_)
            refine lp_al (x := x0) (d := some 36) (by kernel_rfl) rfl (by kernel_rfl) (by kernel_rfl) (al_move (by kernel_rfl)) ?_
            obtain ⟨Ha, Hb⟩ := H
            refine lp_alt ?_ ?_
            · have H := Ha
              clear Ha Hb
              refine lp_dc (d := some 37) (by kernel_rfl) rfl (by kernel_rfl) (by kernel_rfl) (by kernel_rfl) HA_35 (d_call (by kernel_rfl) (by kernel_rfl) H) (fun x37 h_31 w_36 H HA_36 => ?_)
              obtain ⟨Ha, Hb⟩ := H
              refine lp_alt ?_ ?_
              · have H := Ha
                clear Ha Hb
                refine lp_d (d := some 38) (by kernel_rfl) rfl (by kernel_rfl) (by kernel_rfl) (by kernel_rfl) HA_36 (d_call (by kernel_rfl) (by kernel_rfl) H) (fun x38 h_32 w_37 H HA_37 => ?_)
                refine lp_dc (d := some 11) (by kernel_rfl) rfl (by kernel_rfl) (by kernel_rfl) (by kernel_rfl) HA_37 (d_alloc Tryd.zeroValue83 H) (fun x11_1 h_33 w_38 H HA_38 => ?_)
                refine lp_d (d := none) (by kernel_rfl) rfl (by kernel_rfl) (by kernel_rfl) (by kernel_rfl) HA_38 (d_stn Tryd.sizeOf83 (by kernel_rfl) (by kernel_rfl) H) (fun _ h_34 w_39 H HA_39 => ?_)
                refine lp_nil ?_
                exact ⟨(fun i => ([x35, x0, x37, x38]).getD i undef), x11_1, h_34, by kernel_rfl, HA_39, H⟩
              · have H := Hb
                clear Ha Hb
                refine lp_dc (d := some 11) (by kernel_rfl) rfl (by kernel_rfl) (by kernel_rfl) (by kernel_rfl) HA_36 (d_alloc Tryd.zeroValue83 H) (fun x11_2 h_35 w_40 H HA_40 => ?_)
                refine lp_d (d := some 38) (by kernel_rfl) rfl (by kernel_rfl) (by kernel_rfl) (by kernel_rfl) HA_40 (d_call (by kernel_rfl) (by kernel_rfl) H) (fun x38_1 h_36 w_41 H HA_41 => ?_)
                refine lp_d (d := none) (by kernel_rfl) rfl (by kernel_rfl) (by kernel_rfl) (by kernel_rfl) HA_41 (d_stn Tryd.sizeOf83 (by kernel_rfl) (by kernel_rfl) H) (fun _ h_37 w_42 H HA_42 => ?_)
                refine lp_nil ?_
                exact ⟨(fun i => ([x35, x0, x37, x38_1]).getD i undef), x11_2, h_37, by kernel_rfl, HA_42, H⟩
            · have H := Hb
              clear Ha Hb
              refine lp_dc (d := some 11) (by kernel_rfl) rfl (by kernel_rfl) (by kernel_rfl) (by kernel_rfl) HA_35 (d_alloc Tryd.zeroValue83 H) (fun x11_3 h_38 w_43 H HA_43 => ?_)
              refine lp_dc (d := some 37) (by kernel_rfl) rfl (by kernel_rfl) (by kernel_rfl) (by kernel_rfl) HA_43 (d_call (by kernel_rfl) (by kernel_rfl) H) (fun x37_1 h_39 w_44 H HA_44 => ?_)
              refine lp_d (d := some 38) (by kernel_rfl) rfl (by kernel_rfl) (by kernel_rfl) (by kernel_rfl) HA_44 (d_call (by kernel_rfl) (by kernel_rfl) H) (fun x38_2 h_40 w_45 H HA_45 => ?_)
              refine lp_d (d := none) (by kernel_rfl) rfl (by kernel_rfl) (by kernel_rfl) (by kernel_rfl) HA_45 (d_stn Tryd.sizeOf83 (by kernel_rfl) (by kernel_rfl) H) (fun _ h_41 w_46 H HA_46 => ?_)
              refine lp_nil ?_
              exact ⟨(fun i => ([x35, x0, x37_1, x38_2]).getD i undef), x11_3, h_41, by kernel_rfl, HA_46, H⟩
          · rintro _ w_4 ⟨D_3, x11, h_4, rfl, HA_4, H⟩
            unfold grid_Grid_Blit_j1 at H
            refine then_normal ?_
            refine fr_eq (b := ⟨([x0, x1, x2, x3, x4, undef, undef, x7, undef, undef, (.int .i64 0), x11, undef, undef, undef, undef, undef, undef, x1, x19, x19, (D 0), (D 1), (D 2), x24, x24, (D_1 0), (D_1 1), (D_1 2), x29, x29, (D_2 0), (D_2 1), (D_2 2), x34, (D_3 0), (D_3 1), (D_3 2), (D_3 3), undef, undef, undef, undef, undef, undef, undef, undef, undef, undef, undef] ++ [undef, undef, undef, undef, undef, undef, undef, undef, undef, undef, undef, undef, undef, undef, undef, undef, undef, undef, undef, undef, undef, undef, undef, undef, undef, undef, undef, undef, undef, undef, undef, undef, undef, undef, undef, undef, undef, undef, undef, undef, undef, undef, undef, undef, undef, undef, undef, undef, undef, undef] ++ [undef, undef, undef, undef, undef, undef, undef, undef, undef, undef, undef, undef, undef, undef, undef, undef, undef, undef, undef, undef]).toArray, []⟩) (by kernel_rfl) ?_
            refine wp_seq ?_
            obtain ⟨C, HC, H⟩ := H
            refine lwp_mx (Nat.testBit 163840) (Nat.testBit 32768) (Nat.testBit 93917) [0, 1, 0, 7, 0, 16, 63, 0, 128, 0, 896, 0, 2048, 8064, 511, 16895, 65535, 131071] (Nat.testBit 290) C [0, 1, 2, 3, 4, 5, 6, 7, 8, 9, 10, 11, 12, 13, 14, 15, 16, 17] (by kernel_rfl) (by kernel_rfl) (by kernel_rfl) (by kernel_rfl) HA_4 HC ?_
            intro w_5 HA_5
            refine lm_p (d := some 39) (by kernel_rfl) rfl (by kernel_rfl) (by kernel_rfl) (p_off Tryd.underlying83 rfl (fun w => ⟨_, Tryd.sizeOf3 w⟩) rfl (by kernel_rfl) H) (fun x39 H => ?_)
            refine lm_b (d := some 40) (by kernel_rfl) rfl (by kernel_rfl) (by kernel_rfl) (by kernel_rfl) (by kernel_rfl) (y_ld Tryd.isAgg3 (by kernel_rfl) H) (fun x40 H => ?_)
            refine lm_al (x := x3) (d := some 41) (by kernel_rfl) rfl (by kernel_rfl) (by kernel_rfl) (al_move (by kernel_rfl)) ?_
            refine lm_p (d := some 42) (by kernel_rfl) rfl (by kernel_rfl) (by kernel_rfl) (p_add (by kernel_rfl) (by kernel_rfl) H) (fun x42 H => ?_)
            refine lm_p (d := some 43) (by kernel_rfl) rfl (by kernel_rfl) (by kernel_rfl) (p_off Tryd.underlying83 rfl (fun w => ⟨_, Tryd.sizeOf3 w⟩) rfl (by kernel_rfl) H) (fun x43 H => ?_)
            refine lm_b (d := some 44) (by kernel_rfl) rfl (by kernel_rfl) (by kernel_rfl) (by kernel_rfl) (by kernel_rfl) (y_ld Tryd.isAgg3 (by kernel_rfl) H) (fun x44 H => ?_)
            refine lm_fr (b := ⟨([x0, x1, x2, x3, x4, undef, undef, x7, undef, undef, (.int .i64 0), x11, undef, undef, undef, undef, undef, undef, x1, x19, x19, (D 0), (D 1), (D 2), x24, x24, (D_1 0), (D_1 1), (D_1 2), x29, x29, (D_2 0), (D_2 1), (D_2 2), x34, (D_3 0), (D_3 1), (D_3 2), (D_3 3), x39, x40, x3, x42, x43, x44, undef, undef, undef, undef, undef] ++ [undef, undef, undef, undef, undef, undef, undef, undef, undef, undef, undef, undef, undef, undef, undef, undef, undef, undef, undef, undef, undef, undef, undef, undef, undef, undef, undef, undef, undef, undef, undef, undef, undef, undef, undef, undef, undef, undef, undef, undef, undef, undef, undef, undef, undef, undef, undef, undef, undef, undef] ++ [undef, undef, undef, undef, undef, undef, undef, undef, undef, undef, undef, undef, undef, undef, undef, undef, undef, undef, undef, undef]).toArray, []⟩) (by kernel_rfl) ?_
            refine lm_p (d := some 45) (by kernel_rfl) rfl (by kernel_rfl) (by kernel_rfl) (p_sub (by kernel_rfl) (by kernel_rfl) H) (fun x45 H => ?_)
            refine lm_p (d := some 46) (by kernel_rfl) rfl (by kernel_rfl) (by kernel_rfl) (p_off Tryd.underlying83 rfl (fun w => ⟨_, Tryd.sizeOf3 w⟩) rfl (by kernel_rfl) H) (fun x46 H => ?_)
            refine lm_b (d := some 47) (by kernel_rfl) rfl (by kernel_rfl) (by kernel_rfl) (by kernel_rfl) (by kernel_rfl) (y_ld Tryd.isAgg3 (by kernel_rfl) H) (fun x47 H => ?_)
            refine lm_al (x := x4) (d := some 48) (by kernel_rfl) rfl (by kernel_rfl) (by kernel_rfl) (al_move (by kernel_rfl)) ?_
            refine lm_p (d := some 49) (by kernel_rfl) rfl (by kernel_rfl) (by kernel_rfl) (p_add (by kernel_rfl) (by kernel_rfl) H) (fun x49 H => ?_)
            refine lm_p (d := some 50) (by kernel_rfl) rfl (by kernel_rfl) (by kernel_rfl) (p_off Tryd.underlying83 rfl (fun w => ⟨_, Tryd.sizeOf3 w⟩) rfl (by kernel_rfl) H) (fun x50 H => ?_)
            refine lm_fr (b := ⟨([x0, x1, x2, x3, x4, undef, undef, x7, undef, undef, (.int .i64 0), x11, undef, undef, undef, undef, undef, undef, x1, x19, x19, (D 0), (D 1), (D 2), x24, x24, (D_1 0), (D_1 1), (D_1 2), x29, x29, (D_2 0), (D_2 1), (D_2 2), x34, (D_3 0), (D_3 1), (D_3 2), (D_3 3), x39, x40, x3, x42, x43, x44, x45, x46, x47, x4, x49] ++ [x50, undef, undef, undef, undef, undef, undef, undef, undef, undef, undef, undef, undef, undef, undef, undef, undef, undef, undef, undef, undef, undef, undef, undef, undef, undef, undef, undef, undef, undef, undef, undef, undef, undef, undef, undef, undef, undef, undef, undef, undef, undef, undef, undef, undef, undef, undef, undef, undef, undef] ++ [undef, undef, undef, undef, undef, undef, undef, undef, undef, undef, undef, undef, undef, undef, undef, undef, undef, undef, undef, undef]).toArray, []⟩) (by kernel_rfl) ?_
            refine lm_f (d := some 51) (by kernel_rfl) rfl (by kernel_rfl) (by kernel_rfl) (by kernel_rfl) (by kernel_rfl) (c_ld Tryd.isAgg3 (by kernel_rfl) H) (fun x51 H => ?_)
            refine lm_p (d := some 52) (by kernel_rfl) rfl (by kernel_rfl) (by kernel_rfl) (p_sub (by kernel_rfl) (by kernel_rfl) H) (fun x52 H => ?_)
            refine lm_p (d := some 53) (by kernel_rfl) rfl (by kernel_rfl) (by kernel_rfl) (p_off Tryd.underlying83 rfl (fun w => ⟨_, Tryd.sizeOf3 w⟩) rfl (by kernel_rfl) H) (fun x53 H => ?_)
            refine lm_dcs (d := none) (by kernel_rfl) rfl (by kernel_rfl) (by kernel_rfl) (by kernel_rfl) HA_5 (d_st Tryd.sizeOf3 (by kernel_rfl) (by kernel_rfl) H) (fun _ h_5 w_6 H HA_6 => ?_)
            refine lm_p (d := some 54) (by kernel_rfl) rfl (by kernel_rfl) (by kernel_rfl) (p_off Tryd.underlying83 rfl (fun w => ⟨_, Tryd.sizeOf3 w⟩) rfl (by kernel_rfl) H) (fun x54 H => ?_)
            refine lm_d (d := none) (by kernel_rfl) rfl (by kernel_rfl) (by kernel_rfl) (by kernel_rfl) HA_6 (d_st Tryd.sizeOf3 (by kernel_rfl) (by kernel_rfl) H) (fun _ h_6 w_7 H HA_7 => ?_)
            refine lm_nil ?_
            refine then_normal ?_
            refine fr_eq (b := ⟨([x0, x1, x2, x3, x4, undef, undef, x7, undef, undef, (.int .i64 0), x11, undef, undef, undef, undef, undef, undef, x1, x19, x19, (D 0), (D 1), (D 2), x24, x24, (D_1 0), (D_1 1), (D_1 2), x29, x29, (D_2 0), (D_2 1), (D_2 2), x34, (D_3 0), (D_3 1), (D_3 2), (D_3 3), x39, x40, x3, x42, x43, x44, x45, x46, x47, x4, x49] ++ [x50, x51, x52, x53, x54, undef, undef, undef, undef, undef, undef, undef, undef, undef, undef, undef, undef, undef, undef, undef, undef, undef, undef, undef, undef, undef, undef, undef, undef, undef, undef, undef, undef, undef, undef, undef, undef, undef, undef, undef, undef, undef, undef, undef, undef, undef, undef, undef, undef, undef] ++ [undef, undef, undef, undef, undef, undef, undef, undef, undef, undef, undef, undef, undef, undef, undef, undef, undef, undef, undef, undef]).toArray, []⟩) (by kernel_rfl) ?_
            refine wp_seq ?_
            refine wp_join (fun a w => ∃ (D_4 : Nat → Value) (x12 : Value) (h_7 : Heap), a = ⟨([x0, x1, x2, x3, x4, undef, undef, x7, undef, undef, (.int .i64 0), x11, x12, undef, undef, undef, undef, undef, x1, x19, x19, (D 0), (D 1), (D 2), x24, x24, (D_1 0), (D_1 1), (D_1 2), x29, x29, (D_2 0), (D_2 1), (D_2 2), x34, (D_3 0), (D_3 1), (D_3 2), (D_3 3), x39, x40, x3, x42, x43, x44, x45, x46, x47, x4, x49] ++ [x50, x51, x52, x53, x54, (D_4 0), (D_4 1), (D_4 2), (D_4 3), undef, undef, undef, undef, undef, undef, undef, undef, undef, undef, undef, undef, undef, undef, undef, undef, undef, undef, undef, undef, undef, undef, undef, undef, undef, undef, undef, undef, undef, undef, undef, undef, undef, undef, undef, undef, undef, undef, undef, undef, undef] ++ [undef, undef, undef, undef, undef, undef, undef, undef, undef, undef, undef, undef, undef, undef, undef, undef, undef, undef, undef, undef]).toArray, []⟩ ∧ At w0 w h_7 ∧ grid_Grid_Blit_j2 R x0 x1 x3 x4 x7 x11 x12 h_7) ?_ ?_
            · obtain ⟨C_3, HC, H⟩ := H
              refine lwp_pl (Nat.testBit 60) (Nat.testBit 20) (Nat.testBit 2) [0, 0, 2, 7, 0, 31] (Nat.testBit 0) C_3 (.op 0 (.op 1 (.alt (.op 2 (.alt (.op 3 (.op 4 (.op 5 .done))) (.op 4 (.op 3 (.op 5 .done))))) (.op 4 (.op 2 (.op 3 (.op 5 .done))))))) (by kernel_rfl) (by kernel_rfl) (by kernel_rfl) HA_7 HC ?_
              intro w_23 HA_23
              refine lp_f (d := some 55) (by kernel_rfl) rfl (by kernel_rfl) (by kernel_rfl) (by kernel_rfl) (by kernel_rfl) (c_ldn Tryd.isAgg83 Tryd.sizeOf83 (by kernel_rfl) H) (fun x55 H => ?_)
              refine lp_al (x := x1) (d := some 56) (by kernel_rfl) rfl (by kernel_rfl) (by kernel_rfl) (al_move (by kernel_rfl)) ?_
              obtain ⟨Ha, Hb⟩ := H
              refine lp_alt ?_ ?_
              · have H := Ha
                clear Ha Hb
                refine lp_dc (d := some 57) (by kernel_rfl) rfl (by kernel_rfl) (by kernel_rfl) (by kernel_rfl) HA_23 (d_call (by kernel_rfl) (by kernel_rfl) H) (fun x57 h_20 w_24 H HA_24 => ?_)
                obtain ⟨Ha, Hb⟩ := H
                refine lp_alt ?_ ?_
                · have H := Ha
                  clear Ha Hb
                  refine lp_d (d := some 58) (by kernel_rfl) rfl (by kernel_rfl) (by kernel_rfl) (by kernel_rfl) HA_24 (d_call (by kernel_rfl) (by kernel_rfl) H) (fun x58 h_21 w_25 H HA_25 => ?_)
                  refine lp_dc (d := some 12) (by kernel_rfl) rfl (by kernel_rfl) (by kernel_rfl) (by kernel_rfl) HA_25 (d_alloc Tryd.zeroValue83 H) (fun x12_1 h_22 w_26 H HA_26 => ?_)
                  refine lp_d (d := none) (by kernel_rfl) rfl (by kernel_rfl) (by kernel_rfl) (by kernel_rfl) HA_26 (d_stn Tryd.sizeOf83 (by kernel_rfl) (by kernel_rfl) H) (fun _ h_23 w_27 H HA_27 => ?_)
                  refine lp_nil ?_
                  exact ⟨(fun i => ([x55, x1, x57, x58]).getD i undef), x12_1, h_23, by kernel_rfl, HA_27, H⟩
                · have H := Hb
                  clear Ha Hb
                  refine lp_dc (d := some 12) (by kernel_rfl) rfl (by kernel_rfl) (by kernel_rfl) (by kernel_rfl) HA_24 (d_alloc Tryd.zeroValue83 H) (fun x12_2 h_24 w_28 H HA_28 => ?_)
                  refine lp_d (d := some 58) (by kernel_rfl) rfl (by kernel_rfl) (by kernel_rfl) (by kernel_rfl) HA_28 (d_call (by kernel_rfl) (by kernel_rfl) H) (fun x58_1 h_25 w_29 H HA_29 => ?_)
                  refine lp_d (d := none) (by kernel_rfl) rfl (by kernel_rfl) (by kernel_rfl) (by kernel_rfl) HA_29 (d_stn Tryd.sizeOf83 (by kernel_rfl) (by kernel_rfl) H) (fun _ h_26 w_30 H HA_30 => ?_)
                  refine lp_nil ?_
                  exact ⟨(fun i => ([x55, x1, x57, x58_1]).getD i undef), x12_2, h_26, by kernel_rfl, HA_30, H⟩
              · have H := Hb
                clear Ha Hb
                refine lp_dc (d := some 12) (by kernel_rfl) rfl (by kernel_rfl) (by kernel_rfl) (by kernel_rfl) HA_23 (d_alloc Tryd.zeroValue83 H) (fun x12_3 h_27 w_31 H HA_31 => ?_)
                refine lp_dc (d := some 57) (by kernel_rfl) rfl (by kernel_rfl) (by kernel_rfl) (by kernel_rfl) HA_31 (d_call (by kernel_rfl) (by kernel_rfl) H) (fun x57_1 h_28 w_32 H HA_32 => ?_)
                refine lp_d (d := some 58) (by kernel_rfl) rfl (by kernel_rfl) (by kernel_rfl) (by kernel_rfl) HA_32 (d_call (by kernel_rfl) (by kernel_rfl) H) (fun x58_2 h_29 w_33 H HA_33 => ?_)
                refine lp_d (d := none) (by kernel_rfl) rfl (by kernel_rfl) (by kernel_rfl) (by kernel_rfl) HA_33 (d_stn Tryd.sizeOf83 (by kernel_rfl) (by kernel_rfl) H) (fun _ h_30 w_34 H HA_34 => ?_)
                refine lp_nil ?_
                exact ⟨(fun i => ([x55, x1, x57_1, x58_2]).getD i undef), x12_3, h_30, by kernel_rfl, HA_34, H⟩
            · rintro _ w_8 ⟨D_4, x12, h_7, rfl, HA_8, H⟩
              unfold grid_Grid_Blit_j2 at H
              refine then_normal ?_
              refine fr_eq (b := ⟨([x0, x1, x2, x3, x4, undef, undef, x7, undef, undef, (.int .i64 0), x11, x12, undef, undef, undef, undef, undef, x1, x19, x19, (D 0), (D 1), (D 2), x24, x24, (D_1 0), (D_1 1), (D_1 2), x29, x29, (D_2 0), (D_2 1), (D_2 2), x34, (D_3 0), (D_3 1), (D_3 2), (D_3 3), x39, x40, x3, x42, x43, x44, x45, x46, x47, x4, x49] ++ [x50, x51, x52, x53, x54, (D_4 0), (D_4 1), (D_4 2), (D_4 3), undef, undef, undef, undef, undef, undef, undef, undef, undef, undef, undef, undef, undef, undef, undef, undef, undef, undef, undef, undef, undef, undef, undef, undef, undef, undef, undef, undef, undef, undef, undef, undef, undef, undef, undef, undef, undef, undef, undef, undef, undef] ++ [undef, undef, undef, undef, undef, undef, undef, undef, undef, undef, undef, undef, undef, undef, undef, undef, undef, undef, undef, undef]).toArray, []⟩) (by kernel_rfl) ?_
              refine wp_seq ?_
              refine wp_seq ?_
              refine lwp_list ?_
              refine ls_y (d := some 59) (by kernel_rfl) (by kernel_rfl) HA_8 (y_ldn Tryd.isAgg83 Tryd.sizeOf83 (by kernel_rfl) H) (fun x59 H => ?_)
              refine ls_d (d := some 60) (by kernel_rfl) (by kernel_rfl) HA_8 (d_call (by kernel_rfl) (by kernel_rfl) H) (fun x60 h_8 w_9 H HA_9 => ?_)
              refine ls_move (x := x60) (by kernel_rfl) (by kernel_rfl) ?_
              refine ls_orh [(), (), ()] (fun K a w => ∃ (D_5 : Nat → Value) (x64 : Value) (h_9 : Heap), a = ⟨([x0, x1, x2, x3, x4, undef, undef, x7, undef, undef, (.int .i64 0), x11, x12, undef, undef, undef, undef, undef, x1, x19, x19, (D 0), (D 1), (D 2), x24, x24, (D_1 0), (D_1 1), (D_1 2), x29, x29, (D_2 0), (D_2 1), (D_2 2), x34, (D_3 0), (D_3 1), (D_3 2), (D_3 3), x39, x40, x3, x42, x43, x44, x45, x46, x47, x4, x49] ++ [x50, x51, x52, x53, x54, (D_4 0), (D_4 1), (D_4 2), (D_4 3), x59, x60, x60, (D_5 0), (D_5 1), x64, undef, undef, undef, undef, undef, undef, undef, undef, undef, undef, undef, undef, undef, undef, undef, undef, undef, undef, undef, undef, undef, undef, undef, undef, undef, undef, undef, undef, undef, undef, undef, undef, undef, undef, undef] ++ [undef, undef, undef, undef, undef, undef, undef, undef, undef, undef, undef, undef, undef, undef, undef, undef, undef, undef, undef, undef]).toArray, []⟩ ∧ At w0 w h_9 ∧ K x64 h_9) H (fun hb H => ?_) (fun hb H => ?_) ?_
              · refine ls_y (d := some 62) (by kernel_rfl) (by rw [hb]; kernel_rfl) HA_9 (y_ldn Tryd.isAgg83 Tryd.sizeOf83 (by kernel_rfl) H) (fun x62 H => ?_)
                refine ls_d (d := some 63) (by kernel_rfl) (by rw [hb]; kernel_rfl) HA_9 (d_call (by kernel_rfl) (by kernel_rfl) H) (fun x63 h_19 w_22 H HA_22 => ?_)
                refine ls_pick_f (y := x63) (by kernel_rfl) (by rw [hb]; kernel_rfl) (by kernel_rfl) ?_
                refine ls_nil ?_
                refine then_normal ?_
                exact ⟨(fun i => ([x62, x63]).getD i undef), x63, h_19, by kernel_rfl, HA_22, H⟩
              · refine ls_skip (d := some 62) (by kernel_rfl) (by rw [hb]; kernel_rfl) ?_
                refine ls_skip (d := some 63) (by kernel_rfl) (by rw [hb]; kernel_rfl) ?_
                refine ls_pick_t (x := (.bool true)) (by kernel_rfl) (by rw [hb]; kernel_rfl) (by kernel_rfl) ?_
                refine ls_nil ?_
                refine then_normal ?_
                exact ⟨(fun i => ([undef, undef]).getD i undef), (.bool true), h_8, by kernel_rfl, HA_9, H⟩
              · rintro _ w_10 ⟨D_5, x64, h_9, rfl, HA_10, H⟩
                refine ls_nil ?_
                refine then_normal ?_
                refine fr_eq (b := ⟨([x0, x1, x2, x3, x4, undef, undef, x7, undef, undef, (.int .i64 0), x11, x12, undef, undef, undef, undef, undef, x1, x19, x19, (D 0), (D 1), (D 2), x24, x24, (D_1 0), (D_1 1), (D_1 2), x29, x29, (D_2 0), (D_2 1), (D_2 2), x34, (D_3 0), (D_3 1), (D_3 2), (D_3 3), x39, x40, x3, x42, x43, x44, x45, x46, x47, x4, x49] ++ [x50, x51, x52, x53, x54, (D_4 0), (D_4 1), (D_4 2), (D_4 3), x59, x60, x60, (D_5 0), (D_5 1), x64, undef, undef, undef, undef, undef, undef, undef, undef, undef, undef, undef, undef, undef, undef, undef, undef, undef, undef, undef, undef, undef, undef, undef, undef, undef, undef, undef, undef, undef, undef, undef, undef, undef, undef, undef] ++ [undef, undef, undef, undef, undef, undef, undef, undef, undef, undef, undef, undef, undef, undef, undef, undef, undef, undef, undef, undef]).toArray, []⟩) (by kernel_rfl) ?_
                refine wp_if rfl H (fun H => ?_) (fun H => ?_)
                · refine wp_seq ?_
                  refine lwp_list ?_
                  refine ls_assign (x := (.int .i64 0)) (by kernel_rfl) (by kernel_rfl) ?_
                  refine ls_nil ?_
                  refine then_normal ?_
                  refine fr_eq (b := ⟨([x0, x1, x2, x3, x4, undef, undef, x7, undef, undef, (.int .i64 0), x11, x12, undef, undef, undef, undef, undef, x1, x19, x19, (D 0), (D 1), (D 2), x24, x24, (D_1 0), (D_1 1), (D_1 2), x29, x29, (D_2 0), (D_2 1), (D_2 2), x34, (D_3 0), (D_3 1), (D_3 2), (D_3 3), x39, x40, x3, x42, x43, x44, x45, x46, x47, x4, x49] ++ [x50, x51, x52, x53, x54, (D_4 0), (D_4 1), (D_4 2), (D_4 3), x59, x60, x60, (D_5 0), (D_5 1), x64, undef, undef, undef, undef, undef, undef, undef, undef, undef, undef, undef, undef, undef, undef, undef, undef, undef, undef, undef, undef, undef, undef, undef, undef, undef, undef, undef, undef, undef, undef, undef, undef, undef, undef, undef] ++ [undef, undef, undef, undef, undef, undef, undef, undef, undef, undef, undef, undef, undef, undef, undef, undef, undef, undef, undef, undef]).toArray, []⟩) (by kernel_rfl) ?_
                  refine wp_ret ?_
                  refine then_ret ?_
                  exact end1 (Tryd.results97) (by kernel_rfl) (by kernel_rfl) HA_10 H _ (.inr rfl)
                · refine wp_skip ?_
                  refine then_normal ?_
                  refine fr_eq (b := ⟨([x0, x1, x2, x3, x4, undef, undef, x7, undef, undef, (.int .i64 0), x11, x12, undef, undef, undef, undef, undef, x1, x19, x19, (D 0), (D 1), (D 2), x24, x24, (D_1 0), (D_1 1), (D_1 2), x29, x29, (D_2 0), (D_2 1), (D_2 2), x34, (D_3 0), (D_3 1), (D_3 2), (D_3 3), x39, x40, x3, x42, x43, x44, x45, x46, x47, x4, x49] ++ [x50, x51, x52, x53, x54, (D_4 0), (D_4 1), (D_4 2), (D_4 3), x59, x60, x60, (D_5 0), (D_5 1), x64, undef, undef, undef, undef, undef, undef, undef, undef, undef, undef, undef, undef, undef, undef, undef, undef, undef, undef, undef, undef, undef, undef, undef, undef, undef, undef, undef, undef, undef, undef, undef, undef, undef, undef, undef] ++ [undef, undef, undef, undef, undef, undef, undef, undef, undef, undef, undef, undef, undef, undef, undef, undef, undef, undef, undef, undef]).toArray, []⟩) (by kernel_rfl) ?_
                  refine wp_seq ?_
                  refine lwp_list ?_
                  refine ls_assign (x := (.slice none 0 0)) (by kernel_rfl) (by kernel_rfl) ?_
                  refine ls_nil ?_
                  refine then_normal ?_
                  refine fr_eq (b := ⟨([x0, x1, x2, x3, x4, undef, undef, x7, undef, undef, (.int .i64 0), x11, x12, (.slice none 0 0), undef, undef, undef, undef, x1, x19, x19, (D 0), (D 1), (D 2), x24, x24, (D_1 0), (D_1 1), (D_1 2), x29, x29, (D_2 0), (D_2 1), (D_2 2), x34, (D_3 0), (D_3 1), (D_3 2), (D_3 3), x39, x40, x3, x42, x43, x44, x45, x46, x47, x4, x49] ++ [x50, x51, x52, x53, x54, (D_4 0), (D_4 1), (D_4 2), (D_4 3), x59, x60, x60, (D_5 0), (D_5 1), x64, undef, undef, undef, undef, undef, undef, undef, undef, undef, undef, undef, undef, undef, undef, undef, undef, undef, undef, undef, undef, undef, undef, undef, undef, undef, undef, undef, undef, undef, undef, undef, undef, undef, undef, undef] ++ [undef, undef, undef, undef, undef, undef, undef, undef, undef, undef, undef, undef, undef, undef, undef, undef, undef, undef, undef, undef]).toArray, []⟩) (by kernel_rfl) ?_
                  refine wp_seq ?_
                  refine wp_seq ?_
                  refine lwp_list ?_
                  refine ls_p (d := some 65) (by kernel_rfl) (by kernel_rfl) (p_off Tryd.underlying83 rfl (fun w => ⟨_, Tryd.sizeOf3 w⟩) rfl (by kernel_rfl) H) (fun x65 H => ?_)
                  refine ls_y (d := some 66) (by kernel_rfl) (by kernel_rfl) HA_10 (y_ld Tryd.isAgg3 (by kernel_rfl) H) (fun x66 H => ?_)
                  refine ls_move (x := (.int .i64 0)) (by kernel_rfl) (by kernel_rfl) ?_
                  refine ls_nil ?_
                  refine then_normal ?_
                  refine fr_eq (b := ⟨([x0, x1, x2, x3, x4, undef, undef, x7, undef, undef, (.int .i64 0), x11, x12, (.slice none 0 0), undef, undef, undef, undef, x1, x19, x19, (D 0), (D 1), (D 2), x24, x24, (D_1 0), (D_1 1), (D_1 2), x29, x29, (D_2 0), (D_2 1), (D_2 2), x34, (D_3 0), (D_3 1), (D_3 2), (D_3 3), x39, x40, x3, x42, x43, x44, x45, x46, x47, x4, x49] ++ [x50, x51, x52, x53, x54, (D_4 0), (D_4 1), (D_4 2), (D_4 3), x59, x60, x60, (D_5 0), (D_5 1), x64, x65, x66, (.int .i64 0), undef, undef, undef, undef, undef, undef, undef, undef, undef, undef, undef, undef, undef, undef, undef, undef, undef, undef, undef, undef, undef, undef, undef, undef, undef, undef, undef, undef, undef, undef, undef, undef] ++ [undef, undef, undef, undef, undef, undef, undef, undef, undef, undef, undef, undef, undef, undef, undef, undef, undef, undef, undef, undef]).toArray, []⟩) (by kernel_rfl) ?_
                  refine wp_block ?_
                  obtain ⟨I, m, H0, HB⟩ := H
                  refine wp_loop (fun a w => ∃ (D_6 : Nat → Value) (x13 x67 : Value) (h_10 : Heap), a = ⟨([x0, x1, x2, x3, x4, undef, undef, x7, undef, undef, (.int .i64 0), x11, x12, x13, (D_6 0), (D_6 1), undef, undef, x1, x19, x19, (D 0), (D 1), (D 2), x24, x24, (D_1 0), (D_1 1), (D_1 2), x29, x29, (D_2 0), (D_2 1), (D_2 2), x34, (D_3 0), (D_3 1), (D_3 2), (D_3 3), x39, x40, x3, x42, x43, x44, x45, x46, x47, x4, x49] ++ [x50, x51, x52, x53, x54, (D_4 0), (D_4 1), (D_4 2), (D_4 3), x59, x60, x60, (D_5 0), (D_5 1), x64, x65, x66, x67, (D_6 2), (D_6 3), (D_6 4), (D_6 5), (D_6 6), (D_6 7), (D_6 8), (D_6 9), (D_6 10), (D_6 11), (D_6 12), (D_6 13), (D_6 14), (D_6 15), (D_6 16), (D_6 17), (D_6 18), (D_6 19), (D_6 20), (D_6 21), (D_6 22), (D_6 23), (D_6 24), (D_6 25), (D_6 26), (D_6 27), (D_6 28), (D_6 29), (D_6 30), (D_6 31), (D_6 32), undef] ++ [undef, undef, undef, undef, undef, undef, undef, undef, undef, undef, undef, undef, undef, undef, undef, undef, undef, undef, undef, undef]).toArray, []⟩ ∧ At w0 w h_10 ∧ I (x13, x67) h_10) (fun a w => m ((a.tmps.getD 13 undef), (a.tmps.getD 67 undef)) w.heap) ?_ ?_
                  · exact ⟨(fun i => ([undef, undef, undef, undef, undef, undef, undef, undef, undef, undef, undef, undef, undef, undef, undef, undef, undef, undef, undef, undef, undef, undef, undef, undef, undef, undef, undef, undef, undef, undef, undef, undef, undef]).getD i undef), (.slice none 0 0), (.int .i64 0), h_9, by kernel_rfl, HA_10, H0⟩
                  · rintro _ w_11 ⟨D_6, x13, x67, h_10, rfl, HA_11, HI⟩
                    have H : grid_Grid_Blit_l3 R x0 x1 x3 x4 x7 x12 x66 (fun x13' x67' h' => I (x13', x67') h' ∧ m (x13', x67') h' < m (x13, x67) h_10) x13 x67 h_10 := HB (x13, x67) h_10 HI
                    clear HB H0 HI
                    unfold grid_Grid_Blit_l3 at H
                    refine wp_seq ?_
                    refine lwp_list ?_
                    refine ls_p (d := some 68) (by kernel_rfl) (by kernel_rfl) (p_sLt (by kernel_rfl) (by kernel_rfl) H) (fun x68 H => ?_)
                    refine ls_nil ?_
                    refine then_normal ?_
                    refine fr_eq (b := ⟨([x0, x1, x2, x3, x4, undef, undef, x7, undef, undef, (.int .i64 0), x11, x12, x13, (D_6 0), (D_6 1), undef, undef, x1, x19, x19, (D 0), (D 1), (D 2), x24, x24, (D_1 0), (D_1 1), (D_1 2), x29, x29, (D_2 0), (D_2 1), (D_2 2), x34, (D_3 0), (D_3 1), (D_3 2), (D_3 3), x39, x40, x3, x42, x43, x44, x45, x46, x47, x4, x49] ++ [x50, x51, x52, x53, x54, (D_4 0), (D_4 1), (D_4 2), (D_4 3), x59, x60, x60, (D_5 0), (D_5 1), x64, x65, x66, x67, x68, (D_6 3), (D_6 4), (D_6 5), (D_6 6), (D_6 7), (D_6 8), (D_6 9), (D_6 10), (D_6 11), (D_6 12), (D_6 13), (D_6 14), (D_6 15), (D_6 16), (D_6 17), (D_6 18), (D_6 19), (D_6 20), (D_6 21), (D_6 22), (D_6 23), (D_6 24), (D_6 25), (D_6 26), (D_6 27), (D_6 28), (D_6 29), (D_6 30), (D_6 31), (D_6 32), undef] ++ [undef, undef, undef, undef, undef, undef, undef, undef, undef, undef, undef, undef, undef, undef, undef, undef, undef, undef, undef, undef]).toArray, []⟩) (by kernel_rfl) ?_
                    refine wp_seq ?_
                    refine wp_if rfl H (fun H => ?_) (fun H => ?_)
                    · refine wp_skip ?_
                      refine then_normal ?_
                      refine fr_eq (b := ⟨([x0, x1, x2, x3, x4, undef, undef, x7, undef, undef, (.int .i64 0), x11, x12, x13, (D_6 0), (D_6 1), undef, undef, x1, x19, x19, (D 0), (D 1), (D 2), x24, x24, (D_1 0), (D_1 1), (D_1 2), x29, x29, (D_2 0), (D_2 1), (D_2 2), x34, (D_3 0), (D_3 1), (D_3 2), (D_3 3), x39, x40, x3, x42, x43, x44, x45, x46, x47, x4, x49] ++ [x50, x51, x52, x53, x54, (D_4 0), (D_4 1), (D_4 2), (D_4 3), x59, x60, x60, (D_5 0), (D_5 1), x64, x65, x66, x67, x68, (D_6 3), (D_6 4), (D_6 5), (D_6 6), (D_6 7), (D_6 8), (D_6 9), (D_6 10), (D_6 11), (D_6 12), (D_6 13), (D_6 14), (D_6 15), (D_6 16), (D_6 17), (D_6 18), (D_6 19), (D_6 20), (D_6 21), (D_6 22), (D_6 23), (D_6 24), (D_6 25), (D_6 26), (D_6 27), (D_6 28), (D_6 29), (D_6 30), (D_6 31), (D_6 32), undef] ++ [undef, undef, undef, undef, undef, undef, undef, undef, undef, undef, undef, undef, undef, undef, undef, undef, undef, undef, undef, undef]).toArray, []⟩) (by kernel_rfl) ?_
                      refine wp_seq ?_
                      refine wp_block ?_
                      refine wp_seq ?_
                      refine lwp_list ?_
                      refine ls_move (x := x67) (by kernel_rfl) (by kernel_rfl) ?_
                      refine ls_assign (x := x67) (by kernel_rfl) (by kernel_rfl) ?_
                      refine ls_nil ?_
                      refine then_normal ?_
                      refine fr_eq (b := ⟨([x0, x1, x2, x3, x4, undef, undef, x7, undef, undef, (.int .i64 0), x11, x12, x13, x67, (D_6 1), undef, undef, x1, x19, x19, (D 0), (D 1), (D 2), x24, x24, (D_1 0), (D_1 1), (D_1 2), x29, x29, (D_2 0), (D_2 1), (D_2 2), x34, (D_3 0), (D_3 1), (D_3 2), (D_3 3), x39, x40, x3, x42, x43, x44, x45, x46, x47, x4, x49] ++ [x50, x51, x52, x53, x54, (D_4 0), (D_4 1), (D_4 2), (D_4 3), x59, x60, x60, (D_5 0), (D_5 1), x64, x65, x66, x67, x68, x67, (D_6 4), (D_6 5), (D_6 6), (D_6 7), (D_6 8), (D_6 9), (D_6 10), (D_6 11), (D_6 12), (D_6 13), (D_6 14), (D_6 15), (D_6 16), (D_6 17), (D_6 18), (D_6 19), (D_6 20), (D_6 21), (D_6 22), (D_6 23), (D_6 24), (D_6 25), (D_6 26), (D_6 27), (D_6 28), (D_6 29), (D_6 30), (D_6 31), (D_6 32), undef] ++ [undef, undef, undef, undef, undef, undef, undef, undef, undef, undef, undef, undef, undef, undef, undef, undef, undef, undef, undef, undef]).toArray, []⟩) (by kernel_rfl) ?_
                      refine wp_seq ?_
                      refine lwp_list ?_
                      refine ls_p (d := some 70) (by kernel_rfl) (by kernel_rfl) (p_off Tryd.underlying83 rfl (fun w => ⟨_, Tryd.sizeOf3 w⟩) rfl (by kernel_rfl) H) (fun x70 H => ?_)
                      refine ls_y (d := some 71) (by kernel_rfl) (by kernel_rfl) HA_11 (y_ld Tryd.isAgg3 (by kernel_rfl) H) (fun x71 H => ?_)
                      refine ls_move (x := x3) (by kernel_rfl) (by kernel_rfl) ?_
                      refine ls_p (d := some 73) (by kernel_rfl) (by kernel_rfl) (p_sub (by kernel_rfl) (by kernel_rfl) H) (fun x73 H => ?_)
                      refine ls_p (d := some 74) (by kernel_rfl) (by kernel_rfl) (p_off Tryd.underlying83 rfl (fun w => ⟨_, Tryd.sizeOf3 w⟩) rfl (by kernel_rfl) H) (fun x74 H => ?_)
                      refine ls_y (d := some 75) (by kernel_rfl) (by kernel_rfl) HA_11 (y_ld Tryd.isAgg3 (by kernel_rfl) H) (fun x75 H => ?_)
                      refine ls_fr (b := ⟨([x0, x1, x2, x3, x4, undef, undef, x7, undef, undef, (.int .i64 0), x11, x12, x13, x67, (D_6 1), undef, undef, x1, x19, x19, (D 0), (D 1), (D 2), x24, x24, (D_1 0), (D_1 1), (D_1 2), x29, x29, (D_2 0), (D_2 1), (D_2 2), x34, (D_3 0), (D_3 1), (D_3 2), (D_3 3), x39, x40, x3, x42, x43, x44, x45, x46, x47, x4, x49] ++ [x50, x51, x52, x53, x54, (D_4 0), (D_4 1), (D_4 2), (D_4 3), x59, x60, x60, (D_5 0), (D_5 1), x64, x65, x66, x67, x68, x67, x70, x71, x3, x73, x74, x75, (D_6 10), (D_6 11), (D_6 12), (D_6 13), (D_6 14), (D_6 15), (D_6 16), (D_6 17), (D_6 18), (D_6 19), (D_6 20), (D_6 21), (D_6 22), (D_6 23), (D_6 24), (D_6 25), (D_6 26), (D_6 27), (D_6 28), (D_6 29), (D_6 30), (D_6 31), (D_6 32), undef] ++ [undef, undef, undef, undef, undef, undef, undef, undef, undef, undef, undef, undef, undef, undef, undef, undef, undef, undef, undef, undef]).toArray, []⟩) (by kernel_rfl) ?_
                      refine ls_p (d := some 76) (by kernel_rfl) (by kernel_rfl) (p_add (by kernel_rfl) (by kernel_rfl) H) (fun x76 H => ?_)
                      refine ls_assign (x := x76) (by kernel_rfl) (by kernel_rfl) ?_
                      refine ls_nil ?_
                      refine then_normal ?_
                      refine fr_eq (b := ⟨([x0, x1, x2, x3, x4, undef, undef, x7, undef, undef, (.int .i64 0), x11, x12, x13, x67, x76, undef, undef, x1, x19, x19, (D 0), (D 1), (D 2), x24, x24, (D_1 0), (D_1 1), (D_1 2), x29, x29, (D_2 0), (D_2 1), (D_2 2), x34, (D_3 0), (D_3 1), (D_3 2), (D_3 3), x39, x40, x3, x42, x43, x44, x45, x46, x47, x4, x49] ++ [x50, x51, x52, x53, x54, (D_4 0), (D_4 1), (D_4 2), (D_4 3), x59, x60, x60, (D_5 0), (D_5 1), x64, x65, x66, x67, x68, x67, x70, x71, x3, x73, x74, x75, x76, (D_6 11), (D_6 12), (D_6 13), (D_6 14), (D_6 15), (D_6 16), (D_6 17), (D_6 18), (D_6 19), (D_6 20), (D_6 21), (D_6 22), (D_6 23), (D_6 24), (D_6 25), (D_6 26), (D_6 27), (D_6 28), (D_6 29), (D_6 30), (D_6 31), (D_6 32), undef] ++ [undef, undef, undef, undef, undef, undef, undef, undef, undef, undef, undef, undef, undef, undef, undef, undef, undef, undef, undef, undef]).toArray, []⟩) (by kernel_rfl) ?_
                      obtain ⟨C_1, HC, H⟩ := H
                      refine lwp_mx (Nat.testBit 1837056) (Nat.testBit 2048) (Nat.testBit 2324343) [0, 0, 0, 4, 0, 28, 0, 64, 252, 0, 1020, 2046, 0, 0, 0, 16384, 57344, 131070, 262142, 524286, 1048575, 2097151] (Nat.testBit 136) C_1 [0, 1, 2, 3, 4, 5, 6, 7, 8, 9, 10, 11, 12, 13, 14, 15, 16, 17, 18, 19, 20, 21] (by kernel_rfl) (by kernel_rfl) (by kernel_rfl) (by kernel_rfl) HA_11 HC ?_
                      intro w_12 HA_12
                      refine lm_al (x := x13) (d := some 77) (by kernel_rfl) rfl (by kernel_rfl) (by kernel_rfl) (al_move (by kernel_rfl)) ?_
                      refine lm_al (x := x0) (d := some 78) (by kernel_rfl) rfl (by kernel_rfl) (by kernel_rfl) (al_move (by kernel_rfl)) ?_
                      refine lm_p (d := some 79) (by kernel_rfl) rfl (by kernel_rfl) (by kernel_rfl) (p_off Tryd.underlying83 rfl (fun w => ⟨_, Tryd.sizeOf3 w⟩) rfl (by kernel_rfl) H) (fun x79 H => ?_)
                      refine lm_b (d := some 80) (by kernel_rfl) rfl (by kernel_rfl) (by kernel_rfl) (by kernel_rfl) (by kernel_rfl) (y_ld Tryd.isAgg3 (by kernel_rfl) H) (fun x80 H => ?_)
                      refine lm_al (x := x4) (d := some 81) (by kernel_rfl) rfl (by kernel_rfl) (by kernel_rfl) (al_move (by kernel_rfl)) ?_
                      refine lm_p (d := some 82) (by kernel_rfl) rfl (by kernel_rfl) (by kernel_rfl) (p_sub (by kernel_rfl) (by kernel_rfl) H) (fun x82 H => ?_)
                      refine lm_fr (b := ⟨([x0, x1, x2, x3, x4, undef, undef, x7, undef, undef, (.int .i64 0), x11, x12, x13, x67, x76, undef, undef, x1, x19, x19, (D 0), (D 1), (D 2), x24, x24, (D_1 0), (D_1 1), (D_1 2), x29, x29, (D_2 0), (D_2 1), (D_2 2), x34, (D_3 0), (D_3 1), (D_3 2), (D_3 3), x39, x40, x3, x42, x43, x44, x45, x46, x47, x4, x49] ++ [x50, x51, x52, x53, x54, (D_4 0), (D_4 1), (D_4 2), (D_4 3), x59, x60, x60, (D_5 0), (D_5 1), x64, x65, x66, x67, x68, x67, x70, x71, x3, x73, x74, x75, x76, x13, x0, x79, x80, x4, x82, (D_6 17), (D_6 18), (D_6 19), (D_6 20), (D_6 21), (D_6 22), (D_6 23), (D_6 24), (D_6 25), (D_6 26), (D_6 27), (D_6 28), (D_6 29), (D_6 30), (D_6 31), (D_6 32), undef] ++ [undef, undef, undef, undef, undef, undef, undef, undef, undef, undef, undef, undef, undef, undef, undef, undef, undef, undef, undef, undef]).toArray, []⟩) (by kernel_rfl) ?_
                      refine lm_p (d := some 83) (by kernel_rfl) rfl (by kernel_rfl) (by kernel_rfl) (p_off Tryd.underlying83 rfl (fun w => ⟨_, Tryd.sizeOf3 w⟩) rfl (by kernel_rfl) H) (fun x83 H => ?_)
                      refine lm_b (d := some 84) (by kernel_rfl) rfl (by kernel_rfl) (by kernel_rfl) (by kernel_rfl) (by kernel_rfl) (y_ld Tryd.isAgg3 (by kernel_rfl) H) (fun x84 H => ?_)
                      refine lm_p (d := some 85) (by kernel_rfl) rfl (by kernel_rfl) (by kernel_rfl) (p_add (by kernel_rfl) (by kernel_rfl) H) (fun x85 H => ?_)
                      refine lm_al (x := x67) (d := some 86) (by kernel_rfl) rfl (by kernel_rfl) (by kernel_rfl) (al_move (by kernel_rfl)) ?_
                      refine lm_p (d := some 87) (by kernel_rfl) rfl (by kernel_rfl) (by kernel_rfl) (p_add (by kernel_rfl) (by kernel_rfl) H) (fun x87 H => ?_)
                      refine lm_dc (d := some 88) (by kernel_rfl) rfl (by kernel_rfl) (by kernel_rfl) (by kernel_rfl) HA_12 (d_call (by kernel_rfl) (by kernel_rfl) H) (fun x88 h_11 w_13 H HA_13 => ?_)
                      refine lm_fr (b := ⟨([x0, x1, x2, x3, x4, undef, undef, x7, undef, undef, (.int .i64 0), x11, x12, x13, x67, x76, undef, undef, x1, x19, x19, (D 0), (D 1), (D 2), x24, x24, (D_1 0), (D_1 1), (D_1 2), x29, x29, (D_2 0), (D_2 1), (D_2 2), x34, (D_3 0), (D_3 1), (D_3 2), (D_3 3), x39, x40, x3, x42, x43, x44, x45, x46, x47, x4, x49] ++ [x50, x51, x52, x53, x54, (D_4 0), (D_4 1), (D_4 2), (D_4 3), x59, x60, x60, (D_5 0), (D_5 1), x64, x65, x66, x67, x68, x67, x70, x71, x3, x73, x74, x75, x76, x13, x0, x79, x80, x4, x82, x83, x84, x85, x67, x87, x88, (D_6 23), (D_6 24), (D_6 25), (D_6 26), (D_6 27), (D_6 28), (D_6 29), (D_6 30), (D_6 31), (D_6 32), undef] ++ [undef, undef, undef, undef, undef, undef, undef, undef, undef, undef, undef, undef, undef, undef, undef, undef, undef, undef, undef, undef]).toArray, []⟩) (by kernel_rfl) ?_
                      refine lm_al (x := x76) (d := some 89) (by kernel_rfl) rfl (by kernel_rfl) (by kernel_rfl) (al_move (by kernel_rfl)) ?_
                      refine lm_al (x := x76) (d := some 90) (by kernel_rfl) rfl (by kernel_rfl) (by kernel_rfl) (al_move (by kernel_rfl)) ?_
                      refine lm_p (d := some 91) (by kernel_rfl) rfl (by kernel_rfl) (by kernel_rfl) (p_off Tryd.underlying83 rfl (fun w => ⟨_, Tryd.sizeOf3 w⟩) rfl (by kernel_rfl) H) (fun x91 H => ?_)
                      refine lm_f (d := some 92) (by kernel_rfl) rfl (by kernel_rfl) (by kernel_rfl) (by kernel_rfl) (by kernel_rfl) (c_ld Tryd.isAgg3 (by kernel_rfl) H) (fun x92 H => ?_)
                      refine lm_p (d := some 93) (by kernel_rfl) rfl (by kernel_rfl) (by kernel_rfl) (p_add (by kernel_rfl) (by kernel_rfl) H) (fun x93 H => ?_)
                      refine lm_p (d := some 94) (by kernel_rfl) rfl (by kernel_rfl) (by kernel_rfl) (p_sl Tryd.underlying32 Tryd.sizeOf31 (by kernel_rfl) (by kernel_rfl) (by kernel_rfl) H) (fun x94 H => ?_)
                      refine lm_fr (b := ⟨([x0, x1, x2, x3, x4, undef, undef, x7, undef, undef, (.int .i64 0), x11, x12, x13, x67, x76, undef, undef, x1, x19, x19, (D 0), (D 1), (D 2), x24, x24, (D_1 0), (D_1 1), (D_1 2), x29, x29, (D_2 0), (D_2 1), (D_2 2), x34, (D_3 0), (D_3 1), (D_3 2), (D_3 3), x39, x40, x3, x42, x43, x44, x45, x46, x47, x4, x49] ++ [x50, x51, x52, x53, x54, (D_4 0), (D_4 1), (D_4 2), (D_4 3), x59, x60, x60, (D_5 0), (D_5 1), x64, x65, x66, x67, x68, x67, x70, x71, x3, x73, x74, x75, x76, x13, x0, x79, x80, x4, x82, x83, x84, x85, x67, x87, x88, x76, x76, x91, x92, x93, x94, (D_6 29), (D_6 30), (D_6 31), (D_6 32), undef] ++ [undef, undef, undef, undef, undef, undef, undef, undef, undef, undef, undef, undef, undef, undef, undef, undef, undef, undef, undef, undef]).toArray, []⟩) (by kernel_rfl) ?_
                      refine lm_d (d := some 95) (by kernel_rfl) rfl (by kernel_rfl) (by kernel_rfl) (by kernel_rfl) HA_13 (d_call (by kernel_rfl) (by kernel_rfl) H) (fun x95 h_12 w_14 H HA_14 => ?_)
                      refine lm_d (d := some 96) (by kernel_rfl) rfl (by kernel_rfl) (by kernel_rfl) (by kernel_rfl) HA_14 (d_slit (zc := #[.slice none 0 0]) Tryd.underlying26 Tryd.sizeOf32 (by decide) (.inr ⟨by decide, _, Tryd.zeroValue32, (by kernel_rfl)⟩) (by kernel_rfl) (by kernel_rfl) H) (fun x96 h_13 w_15 H HA_15 => ?_)
                      refine lm_d (d := some 97) (by kernel_rfl) rfl (by kernel_rfl) (by kernel_rfl) (by kernel_rfl) HA_15 (d_app (z := #[.slice none 0 0]) Tryd.underlying26 Tryd.underlying26 (.inl ⟨_, rfl⟩) Tryd.typeInfo32 (by kernel_rfl) Tryd.sizeOf32 Tryd.zeroValue32 (by kernel_rfl) (by kernel_rfl) (by kernel_rfl) H) (fun x97 h_14 w_16 H HA_16 => ?_)
                      refine lm_al (x := x97) (d := some 13) (by kernel_rfl) rfl (by kernel_rfl) (by kernel_rfl) (al_assign (by kernel_rfl)) ?_
                      refine lm_nil ?_
                      refine block_normal ?_
                      refine then_normal ?_
                      refine fr_eq (b := ⟨([x0, x1, x2, x3, x4, undef, undef, x7, undef, undef, (.int .i64 0), x11, x12, x97, x67, x76, undef, undef, x1, x19, x19, (D 0), (D 1), (D 2), x24, x24, (D_1 0), (D_1 1), (D_1 2), x29, x29, (D_2 0), (D_2 1), (D_2 2), x34, (D_3 0), (D_3 1), (D_3 2), (D_3 3), x39, x40, x3, x42, x43, x44, x45, x46, x47, x4, x49] ++ [x50, x51, x52, x53, x54, (D_4 0), (D_4 1), (D_4 2), (D_4 3), x59, x60, x60, (D_5 0), (D_5 1), x64, x65, x66, x67, x68, x67, x70, x71, x3, x73, x74, x75, x76, x13, x0, x79, x80, x4, x82, x83, x84, x85, x67, x87, x88, x76, x76, x91, x92, x93, x94, x95, x96, x97, (D_6 32), undef] ++ [undef, undef, undef, undef, undef, undef, undef, undef, undef, undef, undef, undef, undef, undef, undef, undef, undef, undef, undef, undef]).toArray, []⟩) (by kernel_rfl) ?_
                      refine lwp_list ?_
                      refine ls_p (d := some 98) (by kernel_rfl) (by kernel_rfl) (p_add (by kernel_rfl) (by kernel_rfl) H) (fun x98 H => ?_)
                      refine ls_move (x := x98) (by kernel_rfl) (by kernel_rfl) ?_
                      refine ls_nil ?_
                      exact ⟨⟨(fun i => ([x67, x76, x68, x67, x70, x71, x3, x73, x74, x75, x76, x13, x0, x79, x80, x4, x82, x83, x84, x85, x67, x87, x88, x76, x76, x91, x92, x93, x94, x95, x96, x97, x98]).getD i undef), x97, x98, h_14, by kernel_rfl, HA_16, H.1⟩, loop_lt HA_16.heap HA_11.heap (by kernel_rfl) (by kernel_rfl) H.2⟩
                    · refine wp_exit ?_
                      refine then_exit ?_
                      refine then_exit ?_
                      refine block_exit ?_
                      refine then_normal ?_
                      refine fr_eq (b := ⟨([x0, x1, x2, x3, x4, undef, undef, x7, undef, undef, (.int .i64 0), x11, x12, x13, (D_6 0), (D_6 1), undef, undef, x1, x19, x19, (D 0), (D 1), (D 2), x24, x24, (D_1 0), (D_1 1), (D_1 2), x29, x29, (D_2 0), (D_2 1), (D_2 2), x34, (D_3 0), (D_3 1), (D_3 2), (D_3 3), x39, x40, x3, x42, x43, x44, x45, x46, x47, x4, x49] ++ [x50, x51, x52, x53, x54, (D_4 0), (D_4 1), (D_4 2), (D_4 3), x59, x60, x60, (D_5 0), (D_5 1), x64, x65, x66, x67, x68, (D_6 3), (D_6 4), (D_6 5), (D_6 6), (D_6 7), (D_6 8), (D_6 9), (D_6 10), (D_6 11), (D_6 12), (D_6 13), (D_6 14), (D_6 15), (D_6 16), (D_6 17), (D_6 18), (D_6 19), (D_6 20), (D_6 21), (D_6 22), (D_6 23), (D_6 24), (D_6 25), (D_6 26), (D_6 27), (D_6 28), (D_6 29), (D_6 30), (D_6 31), (D_6 32), undef] ++ [undef, undef, undef, undef, undef, undef, undef, undef, undef, undef, undef, undef, undef, undef, undef, undef, undef, undef, undef, undef]).toArray, []⟩) (by kernel_rfl) ?_
                      refine wp_seq ?_
                      refine wp_seq ?_
                      refine lwp_list ?_
                      refine ls_move (x := x13) (by kernel_rfl) (by kernel_rfl) ?_
                      refine ls_p (d := some 100) (by kernel_rfl) (by kernel_rfl) (p_len Tryd.underlying26 (by kernel_rfl) H) (fun x100 H => ?_)
                      refine ls_move (x := (.int .i64 0)) (by kernel_rfl) (by kernel_rfl) ?_
                      refine ls_nil ?_
                      refine then_normal ?_
                      refine fr_eq (b := ⟨([x0, x1, x2, x3, x4, undef, undef, x7, undef, undef, (.int .i64 0), x11, x12, x13, (D_6 0), (D_6 1), undef, undef, x1, x19, x19, (D 0), (D 1), (D 2), x24, x24, (D_1 0), (D_1 1), (D_1 2), x29, x29, (D_2 0), (D_2 1), (D_2 2), x34, (D_3 0), (D_3 1), (D_3 2), (D_3 3), x39, x40, x3, x42, x43, x44, x45, x46, x47, x4, x49] ++ [x50, x51, x52, x53, x54, (D_4 0), (D_4 1), (D_4 2), (D_4 3), x59, x60, x60, (D_5 0), (D_5 1), x64, x65, x66, x67, x68, (D_6 3), (D_6 4), (D_6 5), (D_6 6), (D_6 7), (D_6 8), (D_6 9), (D_6 10), (D_6 11), (D_6 12), (D_6 13), (D_6 14), (D_6 15), (D_6 16), (D_6 17), (D_6 18), (D_6 19), (D_6 20), (D_6 21), (D_6 22), (D_6 23), (D_6 24), (D_6 25), (D_6 26), (D_6 27), (D_6 28), (D_6 29), (D_6 30), (D_6 31), (D_6 32), x13] ++ [x100, (.int .i64 0), undef, undef, undef, undef, undef, undef, undef, undef, undef, undef, undef, undef, undef, undef, undef, undef, undef, undef]).toArray, []⟩) (by kernel_rfl) ?_
                      refine wp_block ?_
                      obtain ⟨I_1, m_1, H0, HB⟩ := H
                      refine wp_loop (fun a w => ∃ (D_7 : Nat → Value) (x101 : Value) (h_15 : Heap), a = ⟨([x0, x1, x2, x3, x4, undef, undef, x7, undef, undef, (.int .i64 0), x11, x12, x13, (D_6 0), (D_6 1), (D_7 0), (D_7 1), x1, x19, x19, (D 0), (D 1), (D 2), x24, x24, (D_1 0), (D_1 1), (D_1 2), x29, x29, (D_2 0), (D_2 1), (D_2 2), x34, (D_3 0), (D_3 1), (D_3 2), (D_3 3), x39, x40, x3, x42, x43, x44, x45, x46, x47, x4, x49] ++ [x50, x51, x52, x53, x54, (D_4 0), (D_4 1), (D_4 2), (D_4 3), x59, x60, x60, (D_5 0), (D_5 1), x64, x65, x66, x67, x68, (D_6 3), (D_6 4), (D_6 5), (D_6 6), (D_6 7), (D_6 8), (D_6 9), (D_6 10), (D_6 11), (D_6 12), (D_6 13), (D_6 14), (D_6 15), (D_6 16), (D_6 17), (D_6 18), (D_6 19), (D_6 20), (D_6 21), (D_6 22), (D_6 23), (D_6 24), (D_6 25), (D_6 26), (D_6 27), (D_6 28), (D_6 29), (D_6 30), (D_6 31), (D_6 32), x13] ++ [x100, x101, (D_7 2), (D_7 3), (D_7 4), (D_7 5), (D_7 6), (D_7 7), (D_7 8), (D_7 9), (D_7 10), (D_7 11), (D_7 12), (D_7 13), (D_7 14), (D_7 15), (D_7 16), (D_7 17), undef, undef]).toArray, []⟩ ∧ At w0 w h_15 ∧ I_1 x101 h_15) (fun a w => m_1 (a.tmps.getD 101 undef) w.heap) ?_ ?_
                      · exact ⟨(fun i => ([undef, undef, undef, undef, undef, undef, undef, undef, undef, undef, undef, undef, undef, undef, undef, undef, undef, undef]).getD i undef), (.int .i64 0), h_10, by kernel_rfl, HA_11, H0⟩
                      · rintro _ w_17 ⟨D_7, x101, h_15, rfl, HA_17, HI⟩
                        have H : grid_Grid_Blit_l4 R x1 x12 x13 x100 (fun x101' h' => I_1 x101' h' ∧ m_1 x101' h' < m_1 x101 h_15) x101 h_15 := HB x101 h_15 HI
                        clear HB H0 HI
                        unfold grid_Grid_Blit_l4 at H
                        refine wp_seq ?_
                        refine lwp_list ?_
                        refine ls_p (d := some 102) (by kernel_rfl) (by kernel_rfl) (p_sLt (by kernel_rfl) (by kernel_rfl) H) (fun x102 H => ?_)
                        refine ls_nil ?_
                        refine then_normal ?_
                        refine fr_eq (b := ⟨([x0, x1, x2, x3, x4, undef, undef, x7, undef, undef, (.int .i64 0), x11, x12, x13, (D_6 0), (D_6 1), (D_7 0), (D_7 1), x1, x19, x19, (D 0), (D 1), (D 2), x24, x24, (D_1 0), (D_1 1), (D_1 2), x29, x29, (D_2 0), (D_2 1), (D_2 2), x34, (D_3 0), (D_3 1), (D_3 2), (D_3 3), x39, x40, x3, x42, x43, x44, x45, x46, x47, x4, x49] ++ [x50, x51, x52, x53, x54, (D_4 0), (D_4 1), (D_4 2), (D_4 3), x59, x60, x60, (D_5 0), (D_5 1), x64, x65, x66, x67, x68, (D_6 3), (D_6 4), (D_6 5), (D_6 6), (D_6 7), (D_6 8), (D_6 9), (D_6 10), (D_6 11), (D_6 12), (D_6 13), (D_6 14), (D_6 15), (D_6 16), (D_6 17), (D_6 18), (D_6 19), (D_6 20), (D_6 21), (D_6 22), (D_6 23), (D_6 24), (D_6 25), (D_6 26), (D_6 27), (D_6 28), (D_6 29), (D_6 30), (D_6 31), (D_6 32), x13] ++ [x100, x101, x102, (D_7 3), (D_7 4), (D_7 5), (D_7 6), (D_7 7), (D_7 8), (D_7 9), (D_7 10), (D_7 11), (D_7 12), (D_7 13), (D_7 14), (D_7 15), (D_7 16), (D_7 17), undef, undef]).toArray, []⟩) (by kernel_rfl) ?_
                        refine wp_seq ?_
                        refine wp_if rfl H (fun H => ?_) (fun H => ?_)
                        · refine wp_skip ?_
                          refine then_normal ?_
                          refine fr_eq (b := ⟨([x0, x1, x2, x3, x4, undef, undef, x7, undef, undef, (.int .i64 0), x11, x12, x13, (D_6 0), (D_6 1), (D_7 0), (D_7 1), x1, x19, x19, (D 0), (D 1), (D 2), x24, x24, (D_1 0), (D_1 1), (D_1 2), x29, x29, (D_2 0), (D_2 1), (D_2 2), x34, (D_3 0), (D_3 1), (D_3 2), (D_3 3), x39, x40, x3, x42, x43, x44, x45, x46, x47, x4, x49] ++ [x50, x51, x52, x53, x54, (D_4 0), (D_4 1), (D_4 2), (D_4 3), x59, x60, x60, (D_5 0), (D_5 1), x64, x65, x66, x67, x68, (D_6 3), (D_6 4), (D_6 5), (D_6 6), (D_6 7), (D_6 8), (D_6 9), (D_6 10), (D_6 11), (D_6 12), (D_6 13), (D_6 14), (D_6 15), (D_6 16), (D_6 17), (D_6 18), (D_6 19), (D_6 20), (D_6 21), (D_6 22), (D_6 23), (D_6 24), (D_6 25), (D_6 26), (D_6 27), (D_6 28), (D_6 29), (D_6 30), (D_6 31), (D_6 32), x13] ++ [x100, x101, x102, (D_7 3), (D_7 4), (D_7 5), (D_7 6), (D_7 7), (D_7 8), (D_7 9), (D_7 10), (D_7 11), (D_7 12), (D_7 13), (D_7 14), (D_7 15), (D_7 16), (D_7 17), undef, undef]).toArray, []⟩) (by kernel_rfl) ?_
                          refine wp_seq ?_
                          refine wp_block ?_
                          refine wp_seq ?_
                          refine lwp_list ?_
                          refine ls_move (x := x101) (by kernel_rfl) (by kernel_rfl) ?_
                          refine ls_p (d := some 104) (by kernel_rfl) (by kernel_rfl) (p_ixs Tryd.underlying26 Tryd.sizeOf32 (by kernel_rfl) (by kernel_rfl) H) (fun x104 H => ?_)
                          refine ls_y (d := some 105) (by kernel_rfl) (by kernel_rfl) HA_17 (y_ld Tryd.isAgg32 (by kernel_rfl) H) (fun x105 H => ?_)
                          refine ls_assign (x := x101) (by kernel_rfl) (by kernel_rfl) ?_
                          refine ls_assign (x := x105) (by kernel_rfl) (by kernel_rfl) ?_
                          refine ls_nil ?_
                          refine then_normal ?_
                          refine fr_eq (b := ⟨([x0, x1, x2, x3, x4, undef, undef, x7, undef, undef, (.int .i64 0), x11, x12, x13, (D_6 0), (D_6 1), x101, x105, x1, x19, x19, (D 0), (D 1), (D 2), x24, x24, (D_1 0), (D_1 1), (D_1 2), x29, x29, (D_2 0), (D_2 1), (D_2 2), x34, (D_3 0), (D_3 1), (D_3 2), (D_3 3), x39, x40, x3, x42, x43, x44, x45, x46, x47, x4, x49] ++ [x50, x51, x52, x53, x54, (D_4 0), (D_4 1), (D_4 2), (D_4 3), x59, x60, x60, (D_5 0), (D_5 1), x64, x65, x66, x67, x68, (D_6 3), (D_6 4), (D_6 5), (D_6 6), (D_6 7), (D_6 8), (D_6 9), (D_6 10), (D_6 11), (D_6 12), (D_6 13), (D_6 14), (D_6 15), (D_6 16), (D_6 17), (D_6 18), (D_6 19), (D_6 20), (D_6 21), (D_6 22), (D_6 23), (D_6 24), (D_6 25), (D_6 26), (D_6 27), (D_6 28), (D_6 29), (D_6 30), (D_6 31), (D_6 32), x13] ++ [x100, x101, x102, x101, x104, x105, (D_7 6), (D_7 7), (D_7 8), (D_7 9), (D_7 10), (D_7 11), (D_7 12), (D_7 13), (D_7 14), (D_7 15), (D_7 16), (D_7 17), undef, undef]).toArray, []⟩) (by kernel_rfl) ?_
                          obtain ⟨C_2, HC, H⟩ := H
                          refine lwp_mx (Nat.testBit 1056) (Nat.testBit 32) (Nat.testBit 859) [0, 0, 2, 0, 14, 31, 0, 64, 255, 0, 1023] (Nat.testBit 4) C_2 [0, 1, 2, 3, 4, 5, 6, 7, 8, 9, 10] (by kernel_rfl) (by kernel_rfl) (by kernel_rfl) (by kernel_rfl) HA_17 HC ?_
                          intro w_18 HA_18
                          refine lm_al (x := x1) (d := some 106) (by kernel_rfl) rfl (by kernel_rfl) (by kernel_rfl) (al_move (by kernel_rfl)) ?_
                          refine lm_p (d := some 107) (by kernel_rfl) rfl (by kernel_rfl) (by kernel_rfl) (p_off Tryd.underlying83 rfl (fun w => ⟨_, Tryd.sizeOf3 w⟩) rfl (by kernel_rfl) H) (fun x107 H => ?_)
                          refine lm_b (d := some 108) (by kernel_rfl) rfl (by kernel_rfl) (by kernel_rfl) (by kernel_rfl) (by kernel_rfl) (y_ld Tryd.isAgg3 (by kernel_rfl) H) (fun x108 H => ?_)
                          refine lm_al (x := x101) (d := some 109) (by kernel_rfl) rfl (by kernel_rfl) (by kernel_rfl) (al_move (by kernel_rfl)) ?_
                          refine lm_p (d := some 110) (by kernel_rfl) rfl (by kernel_rfl) (by kernel_rfl) (p_add (by kernel_rfl) (by kernel_rfl) H) (fun x110 H => ?_)
                          refine lm_dc (d := some 111) (by kernel_rfl) rfl (by kernel_rfl) (by kernel_rfl) (by kernel_rfl) HA_18 (d_call (by kernel_rfl) (by kernel_rfl) H) (fun x111 h_16 w_19 H HA_19 => ?_)
                          refine lm_fr (b := ⟨([x0, x1, x2, x3, x4, undef, undef, x7, undef, undef, (.int .i64 0), x11, x12, x13, (D_6 0), (D_6 1), x101, x105, x1, x19, x19, (D 0), (D 1), (D 2), x24, x24, (D_1 0), (D_1 1), (D_1 2), x29, x29, (D_2 0), (D_2 1), (D_2 2), x34, (D_3 0), (D_3 1), (D_3 2), (D_3 3), x39, x40, x3, x42, x43, x44, x45, x46, x47, x4, x49] ++ [x50, x51, x52, x53, x54, (D_4 0), (D_4 1), (D_4 2), (D_4 3), x59, x60, x60, (D_5 0), (D_5 1), x64, x65, x66, x67, x68, (D_6 3), (D_6 4), (D_6 5), (D_6 6), (D_6 7), (D_6 8), (D_6 9), (D_6 10), (D_6 11), (D_6 12), (D_6 13), (D_6 14), (D_6 15), (D_6 16), (D_6 17), (D_6 18), (D_6 19), (D_6 20), (D_6 21), (D_6 22), (D_6 23), (D_6 24), (D_6 25), (D_6 26), (D_6 27), (D_6 28), (D_6 29), (D_6 30), (D_6 31), (D_6 32), x13] ++ [x100, x101, x102, x101, x104, x105, x1, x107, x108, x101, x110, x111, (D_7 12), (D_7 13), (D_7 14), (D_7 15), (D_7 16), (D_7 17), undef, undef]).toArray, []⟩) (by kernel_rfl) ?_
                          refine lm_p (d := some 112) (by kernel_rfl) rfl (by kernel_rfl) (by kernel_rfl) (p_off Tryd.underlying83 rfl (fun w => ⟨_, Tryd.sizeOf3 w⟩) rfl (by kernel_rfl) H) (fun x112 H => ?_)
                          refine lm_f (d := some 113) (by kernel_rfl) rfl (by kernel_rfl) (by kernel_rfl) (by kernel_rfl) (by kernel_rfl) (c_ld Tryd.isAgg3 (by kernel_rfl) H) (fun x113 H => ?_)
                          refine lm_p (d := some 114) (by kernel_rfl) rfl (by kernel_rfl) (by kernel_rfl) (p_sl Tryd.underlying32 Tryd.sizeOf31 (by kernel_rfl) (by kernel_rfl) (by kernel_rfl) H) (fun x114 H => ?_)
                          refine lm_al (x := x105) (d := some 115) (by kernel_rfl) rfl (by kernel_rfl) (by kernel_rfl) (al_move (by kernel_rfl)) ?_
                          refine lm_d (d := some 116) (by kernel_rfl) rfl (by kernel_rfl) (by kernel_rfl) (by kernel_rfl) HA_19 (d_copy Tryd.underlying32 Tryd.sizeOf31 (by kernel_rfl) (by kernel_rfl) H) (fun x116 h_17 w_20 H HA_20 => ?_)
                          refine lm_nil ?_
                          refine block_normal ?_
                          refine then_normal ?_
                          refine fr_eq (b := ⟨([x0, x1, x2, x3, x4, undef, undef, x7, undef, undef, (.int .i64 0), x11, x12, x13, (D_6 0), (D_6 1), x101, x105, x1, x19, x19, (D 0), (D 1), (D 2), x24, x24, (D_1 0), (D_1 1), (D_1 2), x29, x29, (D_2 0), (D_2 1), (D_2 2), x34, (D_3 0), (D_3 1), (D_3 2), (D_3 3), x39, x40, x3, x42, x43, x44, x45, x46, x47, x4, x49] ++ [x50, x51, x52, x53, x54, (D_4 0), (D_4 1), (D_4 2), (D_4 3), x59, x60, x60, (D_5 0), (D_5 1), x64, x65, x66, x67, x68, (D_6 3), (D_6 4), (D_6 5), (D_6 6), (D_6 7), (D_6 8), (D_6 9), (D_6 10), (D_6 11), (D_6 12), (D_6 13), (D_6 14), (D_6 15), (D_6 16), (D_6 17), (D_6 18), (D_6 19), (D_6 20), (D_6 21), (D_6 22), (D_6 23), (D_6 24), (D_6 25), (D_6 26), (D_6 27), (D_6 28), (D_6 29), (D_6 30), (D_6 31), (D_6 32), x13] ++ [x100, x101, x102, x101, x104, x105, x1, x107, x108, x101, x110, x111, x112, x113, x114, x105, x116, (D_7 17), undef, undef]).toArray, []⟩) (by kernel_rfl) ?_
                          refine lwp_list ?_
                          refine ls_p (d := some 117) (by kernel_rfl) (by kernel_rfl) (p_add (by kernel_rfl) (by kernel_rfl) H) (fun x117 H => ?_)
                          refine ls_move (x := x117) (by kernel_rfl) (by kernel_rfl) ?_
                          refine ls_nil ?_
                          exact ⟨⟨(fun i => ([x101, x105, x102, x101, x104, x105, x1, x107, x108, x101, x110, x111, x112, x113, x114, x105, x116, x117]).getD i undef), x117, h_17, by kernel_rfl, HA_20, H.1⟩, loop_lt HA_20.heap HA_17.heap (by kernel_rfl) (by kernel_rfl) H.2⟩
                        · refine wp_exit ?_
                          refine then_exit ?_
                          refine then_exit ?_
                          refine block_exit ?_
                          refine then_normal ?_
                          refine fr_eq (b := ⟨([x0, x1, x2, x3, x4, undef, undef, x7, undef, undef, (.int .i64 0), x11, x12, x13, (D_6 0), (D_6 1), (D_7 0), (D_7 1), x1, x19, x19, (D 0), (D 1), (D 2), x24, x24, (D_1 0), (D_1 1), (D_1 2), x29, x29, (D_2 0), (D_2 1), (D_2 2), x34, (D_3 0), (D_3 1), (D_3 2), (D_3 3), x39, x40, x3, x42, x43, x44, x45, x46, x47, x4, x49] ++ [x50, x51, x52, x53, x54, (D_4 0), (D_4 1), (D_4 2), (D_4 3), x59, x60, x60, (D_5 0), (D_5 1), x64, x65, x66, x67, x68, (D_6 3), (D_6 4), (D_6 5), (D_6 6), (D_6 7), (D_6 8), (D_6 9), (D_6 10), (D_6 11), (D_6 12), (D_6 13), (D_6 14), (D_6 15), (D_6 16), (D_6 17), (D_6 18), (D_6 19), (D_6 20), (D_6 21), (D_6 22), (D_6 23), (D_6 24), (D_6 25), (D_6 26), (D_6 27), (D_6 28), (D_6 29), (D_6 30), (D_6 31), (D_6 32), x13] ++ [x100, x101, x102, (D_7 3), (D_7 4), (D_7 5), (D_7 6), (D_7 7), (D_7 8), (D_7 9), (D_7 10), (D_7 11), (D_7 12), (D_7 13), (D_7 14), (D_7 15), (D_7 16), (D_7 17), undef, undef]).toArray, []⟩) (by kernel_rfl) ?_
                          refine wp_seq ?_
                          refine lwp_list ?_
                          refine ls_y (d := some 118) (by kernel_rfl) (by kernel_rfl) HA_17 (y_ldn Tryd.isAgg83 Tryd.sizeOf83 (by kernel_rfl) H) (fun x118 H => ?_)
                          refine ls_d (d := some 119) (by kernel_rfl) (by kernel_rfl) HA_17 (d_call (by kernel_rfl) (by kernel_rfl) H) (fun x119 h_18 w_21 H HA_21 => ?_)
                          refine ls_assign (x := x119) (by kernel_rfl) (by kernel_rfl) ?_
                          refine ls_nil ?_
                          refine then_normal ?_
                          refine fr_eq (b := ⟨([x0, x1, x2, x3, x4, undef, undef, x7, undef, undef, x119, x11, x12, x13, (D_6 0), (D_6 1), (D_7 0), (D_7 1), x1, x19, x19, (D 0), (D 1), (D 2), x24, x24, (D_1 0), (D_1 1), (D_1 2), x29, x29, (D_2 0), (D_2 1), (D_2 2), x34, (D_3 0), (D_3 1), (D_3 2), (D_3 3), x39, x40, x3, x42, x43, x44, x45, x46, x47, x4, x49] ++ [x50, x51, x52, x53, x54, (D_4 0), (D_4 1), (D_4 2), (D_4 3), x59, x60, x60, (D_5 0), (D_5 1), x64, x65, x66, x67, x68, (D_6 3), (D_6 4), (D_6 5), (D_6 6), (D_6 7), (D_6 8), (D_6 9), (D_6 10), (D_6 11), (D_6 12), (D_6 13), (D_6 14), (D_6 15), (D_6 16), (D_6 17), (D_6 18), (D_6 19), (D_6 20), (D_6 21), (D_6 22), (D_6 23), (D_6 24), (D_6 25), (D_6 26), (D_6 27), (D_6 28), (D_6 29), (D_6 30), (D_6 31), (D_6 32), x13] ++ [x100, x101, x102, (D_7 3), (D_7 4), (D_7 5), (D_7 6), (D_7 7), (D_7 8), (D_7 9), (D_7 10), (D_7 11), (D_7 12), (D_7 13), (D_7 14), (D_7 15), (D_7 16), (D_7 17), x118, x119]).toArray, []⟩) (by kernel_rfl) ?_
                          refine wp_ret ?_
                          exact end1 (Tryd.results97) (by kernel_rfl) (by kernel_rfl) HA_21 H _ (.inr rfl)

end Go.Proofs.YtmhhjpfkipficaaDoor

end

section
/- The shallow reading of one function, and that the function does it. Written by a program. -/
set_option linter.unusedVariables false
namespace Go.Proofs.YtmhhjpfkipficaaDoor
open Go Go.HW

def grid_Grid_Copy_S (x0 x1 x2 x3 : Value) (h : Heap) (R : Value → Heap → Prop) : Prop :=
  sBox h x1 83 fun x5 h => 
  sLdN h x5 4 fun x11 =>
  grid_Grid_Blit_c x0 x0 x11 x2 x3 h fun x14 h_1 => 
  R x14 h_1
set_option maxRecDepth 100000 in
theorem grid_Grid_Copy_runs {x0 x1 x2 x3 : Value} {h : Heap} {R : Value → Heap → Prop} (H : grid_Grid_Copy_S x0 x1 x2 x3 h R) : grid_Grid_Copy_c x0 x1 x2 x3 h R := by
  unfold grid_Grid_Copy_S at H
  refine runs_of (b := ⟨#[x0, x1, x2, x3, undef, undef, undef, undef, undef, undef, undef, undef, undef, undef, undef], []⟩) Tryd.call77 Tryd.func77 rfl (by kernel_rfl) (fun w0 HA => ?_)
  refine wp_seq ?_
  refine lwp_list ?_
  refine ls_d (d := some 5) (by kernel_rfl) (by kernel_rfl) HA (d_box (by kernel_rfl) H) (fun x5 h w H HA => ?_)
  refine ls_assign (x := (.int .i64 0)) (by kernel_rfl) (by kernel_rfl) ?_
  refine ls_nil ?_
  refine then_normal ?_
  refine fr_eq (b := ⟨#[x0, x1, x2, x3, undef, x5, undef, undef, (.int .i64 0), undef, undef, undef, undef, undef, undef], []⟩) (by kernel_rfl) ?_
  refine wp_seq ?_
  refine lwp_list ?_
  refine ls_move (x := x0) (by kernel_rfl) (by kernel_rfl) ?_
  refine ls_move (x := x0) (by kernel_rfl) (by kernel_rfl) ?_
  refine ls_y (d := some 11) (by kernel_rfl) (by kernel_rfl) HA (y_ldn Tryd.isAgg83 Tryd.sizeOf83 (by kernel_rfl) H) (fun x11 H => ?_)
  refine ls_move (x := x2) (by kernel_rfl) (by kernel_rfl) ?_
  refine ls_move (x := x3) (by kernel_rfl) (by kernel_rfl) ?_
  refine ls_d (d := some 14) (by kernel_rfl) (by kernel_rfl) HA (d_call (by kernel_rfl) (by kernel_rfl) H) (fun x14 h_1 w_1 H HA_1 => ?_)
  refine ls_fr (b := ⟨#[x0, x1, x2, x3, undef, x5, undef, undef, (.int .i64 0), x0, x0, x11, x2, x3, x14], []⟩) (by kernel_rfl) ?_
  refine ls_assign (x := x14) (by kernel_rfl) (by kernel_rfl) ?_
  refine ls_nil ?_
  refine then_normal ?_
  refine fr_eq (b := ⟨#[x0, x1, x2, x3, undef, x5, undef, undef, x14, x0, x0, x11, x2, x3, x14], []⟩) (by kernel_rfl) ?_
  refine wp_ret ?_
  exact end1 (Tryd.results77) (by kernel_rfl) (by kernel_rfl) HA_1 H _ (.inr rfl)

end Go.Proofs.YtmhhjpfkipficaaDoor

end

section
/- Grids: cells copied to another place. -/
set_option linter.unusedSimpArgs false
set_option linter.unusedVariables false
namespace Go.Proofs.YtmhhjpfkipficaaDoor
open Go Go.HW

abbrev CV := {v : Value // Cell1 v}
def encCV (c : CV) : List Value := [c.1]
theorem encCV_len (c : CV) : (encCV c).length = 1 := rfl
theorem encCV_cell (c : CV) : ∀ u ∈ encCV c, Cell1 u := by intro u hu; simp [encCV] at hu; subst hu; exact c.2
/-- Rows by themselves. -/
def rowsP (rs : List (CV × List Ce)) : HP := HP.all (rs.map fun p => Sl encCe 4 p.1.1 p.2)
def allR (w g : Int) : Rc := ⟨0, 0, w, g⟩
theorem allR_v (w g : Int) : (allR w g).v = .agg (allC w g) := rfl
/-- Where it comes from, moved; and what of it is there. -/
def frR (r : Rc) (w g x y : Int) : Rc := ⟨(r.both (allR w g)).x + x - r.x, (r.both (allR w g)).y + y - r.y, (r.both (allR w g)).w, (r.both (allR w g)).h⟩
def itR (r : Rc) (w g x y w' g' : Int) : Rc := (frR r w g x y).both (allR w' g')
theorem mx_le (a b : Int) : a ≤ mx a b ∧ b ≤ mx a b := by unfold mx; split <;> omega
theorem mn_le (a b : Int) : mn a b ≤ a ∧ mn a b ≤ b := by unfold mn; split <;> omega
theorem both_in {a : Rc} {w g : Int} (he : (a.both (allR w g)).empty = false) : (1 ≤ (a.both (allR w g)).w ∧ 1 ≤ (a.both (allR w g)).h) ∧ (0 ≤ (a.both (allR w g)).x ∧ (a.both (allR w g)).x + (a.both (allR w g)).w ≤ w) ∧ (0 ≤ (a.both (allR w g)).y ∧ (a.both (allR w g)).y + (a.both (allR w g)).h ≤ g) ∧ (a.x ≤ (a.both (allR w g)).x ∧ (a.both (allR w g)).x + (a.both (allR w g)).w ≤ a.x + a.w) ∧ (a.y ≤ (a.both (allR w g)).y ∧ (a.both (allR w g)).y + (a.both (allR w g)).h ≤ a.y + a.h) := by
  unfold Rc.empty at he
  simp only [Bool.or_eq_false_iff, decide_eq_false_iff_not] at he
  generalize hq : a.both (allR w g) = q at he ⊢
  unfold Rc.both at hq
  split at hq
  · unfold rof at hq
    split at hq
    · rw [← hq] at he; simp at he
    · have m1 := mx_le a.x (allR w g).x
      have m2 := mx_le a.y (allR w g).y
      have m3 := mn_le (a.x + a.w) ((allR w g).x + (allR w g).w)
      have m4 := mn_le (a.y + a.h) ((allR w g).y + (allR w g).h)
      have z1 : (allR w g).x = 0 := rfl
      have z2 : (allR w g).y = 0 := rfl
      have z3 : (allR w g).w = w := rfl
      have z4 : (allR w g).h = g := rfl
      rw [← hq] at he ⊢
      simp only at he ⊢
      omega
  · rw [← hq] at he; simp at he
theorem geo {r : Rc} {w g x y w' g' : Int} (he : (itR r w g x y w' g').empty = false) :
    (0 ≤ (itR r w g x y w' g').x - x + r.x ∧ (itR r w g x y w' g').x - x + r.x + (itR r w g x y w' g').w ≤ w) ∧ (0 ≤ (itR r w g x y w' g').y - y + r.y ∧ (itR r w g x y w' g').y - y + r.y + (itR r w g x y w' g').h ≤ g) ∧ (0 ≤ (itR r w g x y w' g').x ∧ (itR r w g x y w' g').x + (itR r w g x y w' g').w ≤ w') ∧ (0 ≤ (itR r w g x y w' g').y ∧ (itR r w g x y w' g').y + (itR r w g x y w' g').h ≤ g') ∧ 1 ≤ (itR r w g x y w' g').w ∧ 1 ≤ (itR r w g x y w' g').h := by
  unfold itR at *
  obtain ⟨h1, h2, h3, h4, h5⟩ := both_in he
  have f1 : (frR r w g x y).x = (r.both (allR w g)).x + x - r.x := rfl
  have f2 : (frR r w g x y).y = (r.both (allR w g)).y + y - r.y := rfl
  have f3 : (frR r w g x y).w = (r.both (allR w g)).w := rfl
  have f4 : (frR r w g x y).h = (r.both (allR w g)).h := rfl
  have he0 : (r.both (allR w g)).empty = false := by
    unfold Rc.empty
    simp only [Bool.or_eq_false_iff, decide_eq_false_iff_not]
    omega
  obtain ⟨k1, k2, k3, k4, k5⟩ := both_in he0
  omega
/-- Row k of what is copied. -/
def srow (l : List Ce) (w x0 y0 n : Int) (k : Nat) : List Ce := (((l.take ((y0 + k + 1) * w).toNat).drop ((y0 + k) * w).toNat).take (x0 + n).toNat).drop x0.toNat
def putRows (l' : List Ce) (w' x1 y1 : Int) (rows : Nat → List Ce) : Nat → List Ce
  | 0 => l'
  | k + 1 => setAll (putRows l' w' x1 y1 rows k) ((y1 + k) * w' + x1).toNat (rows k)
theorem putRows_len (l' : List Ce) (w' x1 y1 : Int) (rows : Nat → List Ce) : ∀ k, (putRows l' w' x1 y1 rows k).length = l'.length
  | 0 => rfl
  | k + 1 => by rw [putRows, setAll_len, putRows_len l' w' x1 y1 rows k]

section
variable {h0 h : Heap} {F : List HP} {R : Value → Heap → Prop}
theorem srow_len {l : List Ce} {w g x0 y0 n : Int} {k : Nat} (z : szOk w g l) (hx : 0 ≤ x0 ∧ x0 + n ≤ w) (hn : 1 ≤ n) (hy : 0 ≤ y0 + k ∧ y0 + k < g) : (srow l w x0 y0 n k).length = n.toNat := by
  obtain ⟨z1, z2, z3, z4, z5⟩ := z
  have m := sz_mul ⟨z1, z2⟩ z4 hy
  rw [Int.mul_comm w g] at z5
  unfold srow
  simp only [List.length_drop, List.length_take]
  omega
/-- The rows are read. -/
theorem l3_spec {kg k7 k12 : Nat} {w g x y : Int} {v : Value} {l : List Ce} {r it : Rc} {x1 : Value} (z : szOk w g l) (wx : -1073741824 ≤ x ∧ x ≤ 1073741824) (wy : -1073741824 ≤ y ∧ y ≤ 1073741824) (hr : r.Ok) (hit : (0 ≤ it.x ∧ it.x ≤ 512) ∧ (0 ≤ it.y ∧ it.y ≤ 512))
    (hx : 0 ≤ it.x - x + r.x ∧ it.x - x + r.x + it.w ≤ w) (hy : 0 ≤ it.y - y + r.y ∧ it.y - y + r.y + it.h ≤ g) (hw : 1 ≤ it.w) (hh : 1 ≤ it.h)
    (s : HW.Sep h0 (Blk k7 r.c 83 :: Blk k12 it.c 83 :: Blk kg (grd w g v) 89 :: Sl encCe 4 v l :: F) h)
    (H : ∀ (xv : Value) (rs : List (CV × List Ce)) h', (rs.length : Int) = it.h → (∀ i p, rs[i]? = some p → p.2 = srow l w (it.x - x + r.x) (it.y - y + r.y) it.w i) → HW.Sep h0 (rowsP rs :: Sl encCV 1 xv (rs.map (·.1)) :: Blk k12 it.c 83 :: Blk kg (grd w g v) 89 :: Sl encCe 4 v l :: F) h' →
      (sLen xv fun x100 => sLoop (S := Value) (fun nxt s h => grid_Grid_Blit_l4 R x1 (ptr k12 0) xv x100 (fun x101' h => nxt x101' h) s h) (.int .i64 0) h')) :
    sLoop (S := Value × Value) (fun nxt s h => grid_Grid_Blit_l3 R (ptr kg 0) x1 (.int .i64 x) (.int .i64 y) (ptr k7 0) (ptr k12 0) (.int .i64 it.h) (fun x13' x67' h => nxt (x13', x67') h) s.1 s.2 h) ((.slice none 0 0), (.int .i64 0)) h := by
  have zz := z
  obtain ⟨z1, z2, z3, z4, z5⟩ := zz
  refine ⟨fun t h' => ∃ (k : Nat) (xv : Value) (rs : List (CV × List Ce)), (k : Int) ≤ it.h ∧ t = (xv, .int .i64 k) ∧ rs.length = k ∧ (∀ i p, rs[i]? = some p → p.2 = srow l w (it.x - x + r.x) (it.y - y + r.y) it.w i) ∧ HW.Sep h0 (rowsP rs :: Sl encCV 1 xv (rs.map (·.1)) :: Blk k7 r.c 83 :: Blk k12 it.c 83 :: Blk kg (grd w g v) 89 :: Sl encCe 4 v l :: F) h', fun t _ => match t with | (_, .int _ k) => (it.h - k).toNat | _ => 0, ⟨0, _, [], by omega, rfl, rfl, by simp, (sep_nil s).shut_all (L := [])⟩, ?_⟩
  rintro _ h1 ⟨k, xv, rs, hk, rfl, hlen, hrs, s1⟩
  simp only []
  unfold grid_Grid_Blit_l3
  rw [ev_lt, ev_if]
  by_cases hlt : (k : Int) < it.h
  · rw [if_pos (decide_eq_true hlt)]
    have b7 : h1.has k7 r.c 83 := s1.b2.has
    have b12 : h1.has k12 it.c 83 := s1.b3.has
    have f0 : ∀ {K : Value → Prop}, sLd h1 (ptr k12 0) K = K (.int .i64 it.x) := ev_ld_has b12 rfl
    have g0 : ∀ {K : Value → Prop}, sLd h1 (ptr k7 0) K = K (.int .i64 r.x) := ev_ld_has b7 rfl
    obtain ⟨r1, r2, r3, r4⟩ := hr
    simp only [ev_off, Nat.zero_add, f0, g0, ev_sub, ev_add]
    rw [wrap_i64 (x := it.x - x) (by omega) (by omega), wrap_i64 (by omega) (by omega)]
    refine ⟨fun h' => h'.has k7 r.c 83 ∧ h'.has k12 it.c 83, ⟨b7, b12⟩, ?_⟩
    have c7 : ∀ {o : Nat} {u : Value} {K : Value → Prop}, r.c[o]? = some u → sLdC (fun h' => h'.has k7 r.c 83 ∧ h'.has k12 it.c 83) (ptr k7 o) K = K u := fun hv => ldc_at (C := fun h' => h'.has k7 r.c 83 ∧ h'.has k12 it.c 83) (h0 := h1) ⟨b7, b12⟩ (fun h' e => by rw [e.1.at, hv])
    have c12 : ∀ {o : Nat} {u : Value} {K : Value → Prop}, it.c[o]? = some u → sLdC (fun h' => h'.has k7 r.c 83 ∧ h'.has k12 it.c 83) (ptr k12 o) K = K u := fun hv => ldc_at (C := fun h' => h'.has k7 r.c 83 ∧ h'.has k12 it.c 83) (h0 := h1) ⟨b7, b12⟩ (fun h' e => by rw [e.2.at, hv])
    have f1 : ∀ {K : Value → Prop}, sLd h1 (ptr k12 1) K = K (.int .i64 it.y) := ev_ld_has b12 rfl
    have g1 : ∀ {K : Value → Prop}, sLd h1 (ptr k7 1) K = K (.int .i64 r.y) := ev_ld_has b7 rfl
    rw [f1, ev_sub, wrap_i64 (x := it.y - y) (by omega) (by omega), g1, ev_add, wrap_i64 (x := it.y - y + r.y) (by omega) (by omega), ev_add, wrap_i64 (x := it.y - y + r.y + k) (by omega) (by omega)]
    have hyk : 0 ≤ it.y - y + r.y + k ∧ it.y - y + r.y + k < g := by omega
    have s1g : HW.Sep h0 (Blk kg (grd w g v) 89 :: Sl encCe 4 v l :: rowsP rs :: Sl encCV 1 xv (rs.map (·.1)) :: Blk k7 r.c 83 :: Blk k12 it.c 83 :: F) h1 := s1.b5.b5
    refine row_spec s1g z hyk ⟨⟨b7, b12⟩, ?_⟩
    rw [c12 (o := 2) (u := .int .i64 it.w) rfl, ev_add, wrap_i64 (by omega) (by omega)]
    have m := sz_mul ⟨z1, z2⟩ z4 hyk
    rw [Int.mul_comm w g] at z5
    have rd : HW.Rd encCe 4 h0 (Blk kg (grd w g v) 89 :: Sl encCe 4 v l :: rowsP rs :: Sl encCV 1 xv (rs.map (·.1)) :: Blk k7 r.c 83 :: Blk k12 it.c 83 :: F) v l := Rd.own1
    have rd1 := rd.cut (i := ((it.y - y + r.y + k) * w).toNat) (j := ((it.y - y + r.y + k + 1) * w).toNat) (by omega) (by omega)
    have q1 := rd1.at0 s1g
    have l1 : ((l.take ((it.y - y + r.y + k + 1) * w).toNat).drop ((it.y - y + r.y + k) * w).toNat).length = w.toNat := by simp only [List.length_drop, List.length_take]; omega
    obtain ⟨a, ha⟩ : ∃ a : Nat, it.x - x + r.x = a := ⟨(it.x - x + r.x).toNat, by omega⟩
    obtain ⟨b, hb⟩ : ∃ b : Nat, it.x - x + r.x + it.w = b := ⟨(it.x - x + r.x + it.w).toNat, by omega⟩
    rw [hb, ha]
    refine q1.slK (i := a) (j := b) (by omega) (by rw [l1]; omega) ⟨.i64, rfl⟩ ⟨.i64, rfl⟩ ?_
    have rd2 := rd1.cut (i := a) (j := b) (by omega) (by rw [l1]; omega)
    have hsr : srow l w (it.x - x + r.x) (it.y - y + r.y) it.w k = (((l.take ((it.y - y + r.y + k + 1) * w).toNat).drop ((it.y - y + r.y + k) * w).toNat).take b).drop a := by unfold srow; rw [hb, ha, Int.toNat_natCast, Int.toNat_natCast]
    rw [← hsr] at rd2
    have l2 := srow_len (k := k) z hx hw (by omega)
    refine clone_cells rd2 s1g (by rw [l2]; omega) (by rw [l2]; omega) (fun v' h2 c2 s2 => ?_)
    obtain ⟨va, vn, vm, rfl, _⟩ := s2.seq
    refine s2.slit (enc := encCV) (sz := 1) encCV_len [⟨.slice va vn vm, c2⟩] rfl ⟨rfl, Nat.le_of_ble_eq_true rfl, rfl⟩ (fun lv h3 _ s3 => ?_)
    have s3' : HW.Sep h0 (Sl encCV 1 xv (rs.map (·.1)) :: Sl encCV 1 lv [⟨.slice va vn vm, c2⟩] :: Sl encCe 4 (.slice va vn vm) (srow l w (it.x - x + r.x) (it.y - y + r.y) it.w k) :: Blk kg (grd w g v) 89 :: Sl encCe 4 v l :: rowsP rs :: Blk k7 r.c 83 :: Blk k12 it.c 83 :: F) h3 := s3.b5
    refine s3'.app (enc := encCV) (sz := 1) rfl (by decide) encCV_len encCV_cell s3.seq (by simp only [List.length_map, List.length_cons, List.length_nil]; omega) (by decide) (fun xv' h4 _ s4 => ?_)
    rw [wrap_i64 (x := (k : Int) + 1) (by omega) (by omega)]
    refine ⟨⟨k + 1, xv', rs ++ [(⟨.slice va vn vm, c2⟩, srow l w (it.x - x + r.x) (it.y - y + r.y) it.w k)], by omega, by rw [Int.natCast_add]; rfl, by simp [hlen], ?_, ?_⟩, by omega⟩
    · intro i p hp
      rw [← ha]
      by_cases hi : i < rs.length
      · rw [List.getElem?_append_left hi] at hp; exact hrs i p hp
      · rw [List.getElem?_append_right (by omega)] at hp
        have : i = k := by
          have := (List.getElem?_eq_some_iff.1 hp).1
          simp at this; omega
        subst this
        rw [hlen, Nat.sub_self] at hp
        cases hp; rfl
    · have s5 := s4.drop1
      -- xv', row, kg, v, rows, k7, k12, F
      have s6 : HW.Sep h0 (rowsP rs :: Sl encCe 4 (.slice va vn vm) (srow l w (it.x - x + r.x) (it.y - y + r.y) it.w k) :: Sl encCV 1 xv' (rs.map (·.1) ++ [⟨.slice va vn vm, c2⟩]) :: Blk k7 r.c 83 :: Blk k12 it.c 83 :: Blk kg (grd w g v) 89 :: Sl encCe 4 v l :: F) h4 := by
        exact s5.b3.b3.b6.b6.b4.b5.b6
      have s7 := HW.Sep.push s6
      rw [rowsP, List.map_append, List.map_append]
      exact s7
  · rw [if_neg (by simpa using hlt)]
    exact H xv rs h1 (by omega) hrs (s1.b2.tail)
theorem cutP_cutP {v : Value} {l : List Ce} {a b X : Nat} (q : Seq encCe 4 h v l) (h1 : a + X < b) (h2 : b ≤ l.length) : HW.cutP (HW.cutP v a b 4) X (b - a) 4 = HW.cutP v (a + X) b 4 := by
  obtain ⟨va, n, m, rfl, hn, hm, h3 | ⟨bb, o, rfl, hb, hc⟩⟩ := q
  · omega
  · simp only [HW.cutP, cutV]
    rw [if_neg (show ¬ m = a by omega), if_neg (show ¬ m - a = X by omega), if_neg (show ¬ m = a + X by omega)]
    simp only [Option.map_some, Addr.add]
    have e1 : b - a - X = b - (a + X) := by omega
    have e2 : m - a - X = m - (a + X) := by omega
    rw [e1, e2]
    congr 2
    by_cases ha : a * 4 = 0
    · have : a = 0 := by omega
      subst this
      simp
    · rw [if_neg ha]
      by_cases hX : X * 4 = 0
      · have : X = 0 := by omega
        subst this
        rw [if_pos (by omega), if_neg (by omega)]; rfl
      · rw [if_neg hX, if_neg (by omega)]
        simp only [Addr.mk.injEq, and_true, true_and]
        omega
theorem rows_seq {rs : List (CV × List Ce)} {k : Nat} {p : CV × List Ce} (s : HW.Sep h0 (rowsP rs :: F) h) (hp : rs[k]? = some p) : Seq encCe 4 h p.1.1 p.2 := by
  obtain ⟨A, B, e⟩ := List.append_of_mem (List.mem_of_getElem? hp)
  have s2 := s.open_all
  rw [e, List.map_append, List.map_cons, List.append_assoc, List.cons_append] at s2
  exact (s2.perm List.perm_middle).seq
/-- The rows are put. -/
theorem l4_spec {kt k12 : Nat} {w' g' x0 y0 : Int} {v' xv : Value} {l l' : List Ce} {w : Int} {it : Rc} {rs : List (CV × List Ce)} (z' : szOk w' g' l')
    (hx : 0 ≤ it.x ∧ it.x + it.w ≤ w') (hy : 0 ≤ it.y ∧ it.y + it.h ≤ g') (hw : 1 ≤ it.w) (hh : 1 ≤ it.h) (har : it.area = it.w * it.h)
    (hlen : (rs.length : Int) = it.h) (hrs : ∀ i p, rs[i]? = some p → p.2 = srow l w x0 y0 it.w i) (hsl : ∀ k, k < rs.length → (srow l w x0 y0 it.w k).length = it.w.toNat)
    (s : HW.Sep h0 (rowsP rs :: Sl encCV 1 xv (rs.map (·.1)) :: Blk k12 it.c 83 :: Blk kt (grd w' g' v') 89 :: Sl encCe 4 v' l' :: F) h)
    (H : ∀ h', HW.Sep h0 (Blk kt (grd w' g' v') 89 :: Sl encCe 4 v' (putRows l' w' it.x it.y (srow l w x0 y0 it.w) it.h.toNat) :: F) h' → R (.int .i64 (it.w * it.h)) h') :
    (sLen xv fun x100 => sLoop (S := Value) (fun nxt s h => grid_Grid_Blit_l4 R (ptr kt 0) (ptr k12 0) xv x100 (fun x101' h => nxt x101' h) s h) (.int .i64 0) h) := by
  have zz := z'
  obtain ⟨z1, z2, z3, z4, z5⟩ := zz
  rw [s.b1.seq.len, List.length_map]
  refine ⟨fun t h' => ∃ (k : Nat), k ≤ rs.length ∧ t = .int .i64 k ∧ HW.Sep h0 (rowsP rs :: Sl encCV 1 xv (rs.map (·.1)) :: Blk k12 it.c 83 :: Blk kt (grd w' g' v') 89 :: Sl encCe 4 v' (putRows l' w' it.x it.y (srow l w x0 y0 it.w) k) :: F) h', fun t _ => match t with | .int _ k => (rs.length - k).toNat | _ => 0, ⟨0, Nat.zero_le _, rfl, s⟩, ?_⟩
  rintro _ h1 ⟨k, hk, rfl, s1⟩
  simp only []
  unfold grid_Grid_Blit_l4
  rw [ev_lt, ev_if]
  by_cases hlt : k < rs.length
  · rw [if_pos (by simpa using hlt)]
    obtain ⟨p, hp⟩ : ∃ p, rs[k]? = some p := ⟨rs[k], List.getElem?_eq_getElem hlt⟩
    have hp1 : (rs.map (·.1))[k]? = some p.1 := by rw [List.getElem?_map, hp]; rfl
    rw [s1.b1.seq.ld hp1 rfl]
    have b12 : h1.has k12 it.c 83 := s1.b2.has
    refine ⟨fun h' => h'.has k12 it.c 83, b12, ?_⟩
    have c12 : ∀ {o : Nat} {u : Value} {K : Value → Prop}, it.c[o]? = some u → sLdC (fun h' => h'.has k12 it.c 83) (ptr k12 o) K = K u := fun hv => ldc_at (C := fun h' => h'.has k12 it.c 83) (h0 := h1) b12 (fun h' e => by rw [e.at, hv])
    have f1 : ∀ {K : Value → Prop}, sLd h1 (ptr k12 1) K = K (.int .i64 it.y) := ev_ld_has b12 rfl
    rw [ev_off, Nat.zero_add, f1, ev_add, wrap_i64 (by omega) (by omega)]
    have hyk : 0 ≤ it.y + k ∧ it.y + k < g' := by omega
    have zk : szOk w' g' (putRows l' w' it.x it.y (srow l w x0 y0 it.w) k) := by unfold szOk; rw [putRows_len]; exact z'
    have s1g : HW.Sep h0 (Blk kt (grd w' g' v') 89 :: Sl encCe 4 v' (putRows l' w' it.x it.y (srow l w x0 y0 it.w) k) :: rowsP rs :: Sl encCV 1 xv (rs.map (·.1)) :: Blk k12 it.c 83 :: F) h1 := s1.b4.b4
    refine row_spec s1g zk hyk ⟨b12, ?_⟩
    rw [ev_off, c12 (u := .int .i64 it.x) rfl]
    have m := sz_mul ⟨z1, z2⟩ z4 hyk
    rw [Int.mul_comm w' g'] at z5
    obtain ⟨a, ha⟩ : ∃ a : Nat, (it.y + k) * w' = a := ⟨((it.y + k) * w').toNat, by omega⟩
    obtain ⟨b, hb⟩ : ∃ b : Nat, (it.y + k + 1) * w' = b := ⟨((it.y + k + 1) * w').toNat, by omega⟩
    obtain ⟨X, hX⟩ : ∃ X : Nat, it.x = X := ⟨it.x.toNat, by omega⟩
    rw [ha, hb, hX, Int.toNat_natCast, Int.toNat_natCast]
    have hlk : (putRows l' w' it.x it.y (srow l w x0 y0 it.w) k).length = l'.length := putRows_len _ _ _ _ _ _
    rw [hX] at hlk s1g
    have qv := s1g.b1.seq
    have qc := qv.cutP (i := a) (j := b) (by omega) (by omega)
    refine qc.slK (i := X) (j := b - a) (by omega) (by simp only [List.length_drop, List.length_take]; omega) ⟨.i64, rfl⟩ (by show bnd none _ (b - a); simp only [bnd, List.length_drop, List.length_take]; omega) ?_
    rw [cutP_cutP qv (by omega) (by omega)]
    have hpl : p.2.length = it.w.toNat := by rw [hrs k p hp]; exact hsl k hlt
    have qs := rows_seq s1 hp
    refine s1g.b1.copy encCe_len encCe_cell qs (by omega) (i := a + X) (j := b) (by omega) (by omega) (fun h2 s2 => ?_)
    rw [ev_add, wrap_i64 (by omega) (by omega)]
    refine ⟨⟨k + 1, hlt, by rw [Int.natCast_add]; rfl, ?_⟩, by simp only; omega⟩
    have e : putRows l' w' (X : Int) it.y (srow l w x0 y0 it.w) (k + 1) = setAll (putRows l' w' (X : Int) it.y (srow l w x0 y0 it.w) k) (a + X) p.2 := by
      rw [putRows, ha, hrs k p hp]
      congr 1
    rw [e]
    exact s2.b1.b4.b4.b4
  · have : k = rs.length := by omega
    subst this
    rw [if_neg (by simp)]
    rw [s1.b2.ldall (n := 4) rfl]
    refine rarea_spec (r := it) (fun h2 e2 => ?_)
    rw [har]
    refine H h2 ?_
    have s2 := (s1.ext' e2).tail2.tail
    have e : rs.length = it.h.toNat := by omega
    rw [e] at s2
    exact s2
/-- A copy within one grid. -/
theorem j2_spec {kg k7 k11 k12 : Nat} {w g x y : Int} {v : Value} {l : List Ce} {r fr it : Rc} (z : szOk w g l) (wx : -1073741824 ≤ x ∧ x ≤ 1073741824) (wy : -1073741824 ≤ y ∧ y ≤ 1073741824) (hr : r.Ok) (hfr : fr = frR r w g x y) (hit : it = itR r w g x y w g)
    (s : HW.Sep h0 (Blk k12 it.c 83 :: Blk k11 fr.c 83 :: Blk k7 r.c 83 :: Blk kg (grd w g v) 89 :: Sl encCe 4 v l :: F) h)
    (H0 : (fr.empty || it.empty) = true → ∀ h', HW.Sep h0 (Blk kg (grd w g v) 89 :: Sl encCe 4 v l :: F) h' → R (.int .i64 0) h')
    (H1 : (fr.empty || it.empty) = false → ∀ h', HW.Sep h0 (Blk kg (grd w g v) 89 :: Sl encCe 4 v (putRows l w it.x it.y (srow l w (it.x - x + r.x) (it.y - y + r.y) it.w) it.h.toNat) :: F) h' → R (.int .i64 (it.w * it.h)) h') :
    grid_Grid_Blit_j2 R (ptr kg 0) (ptr kg 0) (.int .i64 x) (.int .i64 y) (ptr k7 0) (ptr k11 0) (ptr k12 0) h := by
  unfold grid_Grid_Blit_j2
  rw [s.b1.ldall (n := 4) rfl]
  refine rempty_spec (r := fr) (fun h1 e1 => ?_)
  have s1 := s.ext' e1
  refine or_ext (y := it.empty) (fun _ K' HK => by
    rw [s1.ldall (n := 4) rfl]
    exact rempty_spec (r := it) (fun h2 e2 => HK _ e2)) (fun h2 e2 => ?_)
  have s2 := s1.ext' e2
  rw [ev_if]
  cases he : (fr.empty || it.empty) with
  | true => rw [if_pos rfl]; exact H0 he h2 (s2.tail2.tail)
  | false =>
    rw [if_neg (by decide)]
    have hie : it.empty = false := (Bool.or_eq_false_iff.1 he).2
    rw [hit] at hie
    obtain ⟨g1, g2, g3, g4, g5, g6⟩ := geo hie
    rw [← hit] at g1 g2 g3 g4 g5 g6
    have zz := z
    obtain ⟨z1, z2, z3, z4, z5⟩ := zz
    have f3 : ∀ {K : Value → Prop}, sLd h2 (ptr k12 3) K = K (.int .i64 it.h) := s2.ld rfl
    rw [ev_off, Nat.zero_add, f3]
    have har : it.area = it.w * it.h := by
      unfold Rc.area
      have : it.right = true := (Rc.right_iff it).2 (by unfold Rc.Ok; omega)
      rw [this]
      have : it.empty = false := by rw [hit]; exact hie
      rw [this]; rfl
    refine l3_spec (x1 := ptr kg 0) z wx wy hr ⟨by omega, by omega⟩ g1 g2 g5 g6 (s2.drop1.b1) (fun xv rs h3 hl hrs s3 => ?_)
    refine l4_spec z g3 g4 g5 g6 har hl hrs (fun k hk => srow_len z g1 g5 (by omega)) s3 (fun h4 s4 => H1 he h4 s4)
theorem both_rng {a : Rc} {w g : Int} (hw : 1 ≤ w ∧ w ≤ 512) (hg : 1 ≤ g ∧ g ≤ 512) : (0 ≤ (a.both (allR w g)).x ∧ (a.both (allR w g)).x ≤ 512) ∧ (0 ≤ (a.both (allR w g)).y ∧ (a.both (allR w g)).y ≤ 512) := by
  cases he : (a.both (allR w g)).empty with
  | false =>
    obtain ⟨h1, h2, h3, _, _⟩ := both_in he
    omega
  | true =>
    unfold Rc.empty at he
    simp only [Bool.or_eq_true, decide_eq_true_eq] at he
    generalize hq : a.both (allR w g) = q at he ⊢
    unfold Rc.both at hq
    split at hq
    · unfold rof at hq
      split at hq
      · rw [← hq]; simp
      · rw [← hq] at he; simp only at he; omega
    · rw [← hq]; simp
abbrev z4 : Array Value := #[.int .i64 0, .int .i64 0, .int .i64 0, .int .i64 0]
theorem three {C : Heap → Prop} {a : Rc} {kg : Nat} {w g : Int} {v : Value} {J : Value → Heap → Prop} {F : List HP} (hC : ∀ h', Ext h h' → C h') (s : HW.Sep h0 F h) (sg : ∃ G, HW.Sep h0 (Blk kg (grd w g v) 89 :: G) h)
    (HJ : ∀ n h', HW.Sep h0 (Blk n (a.both (allR w g)).c 83 :: F) h' → J (ptr n 0) h') :
    (grid_Grid_all_c (ptr kg 0) h (fun x37 h_31 => C h_31 ∧ ((rect_Both_c a.v x37 h_31 fun x38 h_32 => sNew h_32 z4 83 fun n h_33 => C h_33 ∧ (sStN h_33 n x38 4 fun h_34 => J n h_34)) ∧ (sNew h_31 z4 83 fun n h_35 => C h_35 ∧ (rect_Both_c a.v x37 h_35 fun x38 h_36 => sStN h_36 n x38 4 fun h_37 => J n h_37))))) ∧
    (sNew h z4 83 fun n h_38 => C h_38 ∧ (grid_Grid_all_c (ptr kg 0) h_38 fun x37 h_39 => C h_39 ∧ (rect_Both_c a.v x37 h_39 fun x38 h_40 => sStN h_40 n x38 4 fun h_41 => J n h_41))) := by
  obtain ⟨G, sg⟩ := sg
  refine ⟨?_, ?_⟩
  · refine all_spec sg (fun h1 e1 => ⟨hC _ e1, ?_, ?_⟩)
    · refine rboth_spec (a := a) (b := allR w g) (fun h2 e2 => ?_)
      refine (HW.Sep.start h2).new (fun n h3 s3 => ⟨hC _ ((e1.trans e2).trans s3.ext), ?_⟩)
      have s4 := (s.ext' (e1.trans e2)).add s3
      exact HW.Sep.stall s4 (cs := (a.both (allR w g)).c) rfl rfl (Rc.cell1 _) (fun h4 s5 => HJ n h4 s5)
    · refine (HW.Sep.start h1).new (fun n h3 s3 => ⟨hC _ (e1.trans s3.ext), ?_⟩)
      refine rboth_spec (a := a) (b := allR w g) (fun h2 e2 => ?_)
      have s4 := ((s.ext' e1).add s3).ext' e2
      exact HW.Sep.stall s4 (cs := (a.both (allR w g)).c) rfl rfl (Rc.cell1 _) (fun h4 s5 => HJ n h4 s5)
  · refine (HW.Sep.start h).new (fun n h3 s3 => ⟨hC _ s3.ext, ?_⟩)
    refine all_spec (sg.ext' s3.ext) (fun h1 e1 => ⟨hC _ (s3.ext.trans e1), ?_⟩)
    refine rboth_spec (a := a) (b := allR w g) (fun h2 e2 => ?_)
    have s4 := ((s.add s3).ext' e1).ext' e2
    exact HW.Sep.stall s4 (cs := (a.both (allR w g)).c) rfl rfl (Rc.cell1 _) (fun h4 s5 => HJ n h4 s5)
theorem j1_spec {kg k7 k11 : Nat} {w g x y : Int} {v : Value} {l : List Ce} {r : Rc} (z : szOk w g l) (wx : -1073741824 ≤ x ∧ x ≤ 1073741824) (wy : -1073741824 ≤ y ∧ y ≤ 1073741824) (hr : r.Ok)
    (s : HW.Sep h0 (Blk k11 (r.both (allR w g)).c 83 :: Blk k7 r.c 83 :: Blk kg (grd w g v) 89 :: Sl encCe 4 v l :: F) h)
    (H0 : ((frR r w g x y).empty || (itR r w g x y w g).empty) = true → ∀ h', HW.Sep h0 (Blk kg (grd w g v) 89 :: Sl encCe 4 v l :: F) h' → R (.int .i64 0) h')
    (H1 : ((frR r w g x y).empty || (itR r w g x y w g).empty) = false → ∀ h', HW.Sep h0 (Blk kg (grd w g v) 89 :: Sl encCe 4 v (putRows l w (itR r w g x y w g).x (itR r w g x y w g).y (srow l w ((itR r w g x y w g).x - x + r.x) ((itR r w g x y w g).y - y + r.y) (itR r w g x y w g).w) (itR r w g x y w g).h.toNat) :: F) h' → R (.int .i64 ((itR r w g x y w g).w * (itR r w g x y w g).h)) h') :
    grid_Grid_Blit_j1 R (ptr kg 0) (ptr kg 0) (.int .i64 x) (.int .i64 y) (ptr k7 0) (ptr k11 0) h := by
  unfold grid_Grid_Blit_j1
  have zz := z
  obtain ⟨z1, z2, z3, z4', z5⟩ := zz
  have rg := both_rng (a := r) (w := w) (g := g) ⟨z1, z2⟩ ⟨z3, z4'⟩
  obtain ⟨r1, r2, r3, r4⟩ := hr
  have b7 : h.has k7 r.c 83 := s.b1.has
  refine ⟨fun h' => h'.has k7 r.c 83, b7, ?_⟩
  have f0 : ∀ {K : Value → Prop}, sLd h (ptr k11 0) K = K (.int .i64 (r.both (allR w g)).x) := s.ld rfl
  have f1 : ∀ {K : Value → Prop}, sLd h (ptr k11 1) K = K (.int .i64 (r.both (allR w g)).y) := s.ld rfl
  have g0 : ∀ {K : Value → Prop}, sLd h (ptr k7 0) K = K (.int .i64 r.x) := ev_ld_has b7 rfl
  have g1 : ∀ {K : Value → Prop}, sLd h (ptr k7 1) K = K (.int .i64 r.y) := ev_ld_has b7 rfl
  have c7 : ∀ {o : Nat} {u : Value} {K : Value → Prop}, r.c[o]? = some u → sLdC (fun h' => h'.has k7 r.c 83) (ptr k7 o) K = K u := fun hv => ldc_at (C := fun h' => h'.has k7 r.c 83) (h0 := h) b7 (fun h' e => by rw [e.at, hv])
  have c1 := @c7 1 (.int .i64 r.y) 
  simp only [ev_off, Nat.zero_add, f0, f1, g0, g1, c1 rfl, ev_add, ev_sub]
  rw [wrap_i64 (x := (r.both (allR w g)).x + x) (by omega) (by omega), wrap_i64 (x := (r.both (allR w g)).x + x - r.x) (by omega) (by omega), wrap_i64 (x := (r.both (allR w g)).y + y) (by omega) (by omega), wrap_i64 (x := (r.both (allR w g)).y + y - r.y) (by omega) (by omega)]
  refine s.st (Nat.le_of_ble_eq_true rfl) trivial (fun h1 s1 => ⟨s1.b1.has, ?_⟩)
  refine s1.st (Nat.le_of_ble_eq_true rfl) trivial (fun h2 s2 => ?_)
  have s2 : HW.Sep h0 (Blk k11 (frR r w g x y).c 83 :: Blk k7 r.c 83 :: Blk kg (grd w g v) 89 :: Sl encCe 4 v l :: F) h2 := s2
  refine ⟨fun h' => h'.has k11 (frR r w g x y).c 83, s2.has, ?_⟩
  have cA : ∀ {K : Value → Prop}, sLdNC (fun h' => h'.has k11 (frR r w g x y).c 83) (ptr k11 0) 4 K = K (frR r w g x y).v := fun {K} => ldnc_all (C := fun h' => h'.has k11 (frR r w g x y).c 83) (h0 := h2) s2.has rfl (fun _ e => e)
  rw [cA]
  exact three (a := frR r w g x y) (fun h' e => e.has s2.has) s2 ⟨_, s2.b2⟩ (fun n h' s' => j2_spec z wx wy ⟨r1, r2, r3, r4⟩ rfl rfl s' H0 H1)
theorem blit_spec {kg : Nat} {w g x y : Int} {v : Value} {l : List Ce} {r : Rc} (z : szOk w g l)
    (s : HW.Sep h0 (Blk kg (grd w g v) 89 :: Sl encCe 4 v l :: F) h)
    (H0 : (!(r.right && nearB x && nearB y) || ((frR r w g x y).empty || (itR r w g x y w g).empty)) = true → ∀ h', HW.Sep h0 (Blk kg (grd w g v) 89 :: Sl encCe 4 v l :: F) h' → R (.int .i64 0) h')
    (H1 : (!(r.right && nearB x && nearB y) || ((frR r w g x y).empty || (itR r w g x y w g).empty)) = false → ∀ h', HW.Sep h0 (Blk kg (grd w g v) 89 :: Sl encCe 4 v (putRows l w (itR r w g x y w g).x (itR r w g x y w g).y (srow l w ((itR r w g x y w g).x - x + r.x) ((itR r w g x y w g).y - y + r.y) (itR r w g x y w g).w) (itR r w g x y w g).h.toNat) :: F) h' → R (.int .i64 ((itR r w g x y w g).w * (itR r w g x y w g).h)) h') :
    grid_Grid_Blit_c (ptr kg 0) (ptr kg 0) r.v (.int .i64 x) (.int .i64 y) h R := by
  apply grid_Grid_Blit_runs
  unfold grid_Grid_Blit_S
  refine s.box (c := r.c) r.cells (fun k7 h1 s1 => ?_)
  have e0 : ∀ {K : Value → Prop}, sEqlNil (ptr kg 0) K = K (.bool false) := by intro K; simp only [ptr, ev_eqlNil, Option.isNone_some]
  rw [e0]
  refine or_ext (y := !r.right) (fun _ K' HK => by
    rw [s1.ldall (n := 4) rfl]
    exact rright_spec (r := r) (fun h2 e2 => by rw [ev_not]; exact HK _ e2)) (fun h2 e2 => ?_)
  refine or_ext (y := !nearB x) (fun _ K' HK => gnear_spec (by rw [ev_not]; exact HK _ (Ext.refl _))) (fun h3 e3 => ?_)
  refine or_ext (y := !nearB y) (fun _ K' HK => gnear_spec (by rw [ev_not]; exact HK _ (Ext.refl _))) (fun h4 e4 => ?_)
  have s4 := ((s1.ext' e2).ext' e3).ext' e4
  rw [ev_if]
  have ec : (false || !r.right || !nearB x || !nearB y) = !(r.right && nearB x && nearB y) := by cases r.right <;> cases nearB x <;> cases nearB y <;> rfl
  rw [ec]
  cases hc : (r.right && nearB x && nearB y) with
  | false =>
    rw [if_pos (by decide)]
    exact H0 (by rw [hc]; rfl) h4 s4.tail
  | true =>
    rw [if_neg (by decide)]
    rw [hc] at H0 H1
    simp only [Bool.not_true, Bool.false_or] at H0 H1
    simp only [Bool.and_eq_true] at hc
    obtain ⟨⟨c1, c2⟩, c3⟩ := hc
    have wx : -1073741824 ≤ x ∧ x ≤ 1073741824 := by simpa [nearB] using c2
    have wy : -1073741824 ≤ y ∧ y ≤ 1073741824 := by simpa [nearB] using c3
    refine ⟨fun h' => h'.has k7 r.c 83, s4.has, ?_⟩
    have cA : ∀ {K : Value → Prop}, sLdNC (fun h' => h'.has k7 r.c 83) (ptr k7 0) 4 K = K r.v := fun {K} => ldnc_all (C := fun h' => h'.has k7 r.c 83) (h0 := h4) s4.has rfl (fun _ e => e)
    rw [cA]
    exact three (a := r) (fun h' e => e.has s4.has) s4 ⟨_, s4.b1⟩ (fun n h' s' => j1_spec z wx wy ((Rc.right_iff r).1 c1) s' H0 H1)
end
end Go.Proofs.YtmhhjpfkipficaaDoor

end

section
/- Grids, plain: what cells a list has. -/
set_option linter.unusedSimpArgs false
set_option linter.unusedVariables false
namespace Go.Proofs.YtmhhjpfkipficaaDoor
open Go Go.HW

theorem setAll_get : ∀ (src l : List Ce) (p i : Nat), p + src.length ≤ l.length → (setAll l p src)[i]? = if p ≤ i ∧ i < p + src.length then src[i - p]? else l[i]?
  | [], l, p, i, _ => by
    rw [if_neg (by simp only [List.length_nil]; omega)]; rfl
  | s :: r, l, p, i, hp => by
    simp only [List.length_cons] at hp ⊢
    rw [setAll, setAll_get r (l.set p s) (p + 1) i (by rw [List.length_set]; omega)]
    by_cases h1 : p ≤ i ∧ i < p + (r.length + 1)
    · rw [if_pos h1]
      by_cases h2 : i = p
      · subst h2
        rw [if_neg (by omega), List.getElem?_set_self (by omega), Nat.sub_self]; rfl
      · rw [if_pos (by omega), show i - p = (i - (p + 1)) + 1 by omega]; rfl
    · rw [if_neg h1, if_neg (by omega), List.getElem?_set_ne (by omega)]
theorem idx_ne {w x y X m Y : Int} (hw : 1 ≤ w) (hx : 0 ≤ x ∧ x < w) (hX : 0 ≤ X ∧ X + m ≤ w) : (Y * w + X ≤ y * w + x ∧ y * w + x < Y * w + X + m) ↔ (y = Y ∧ X ≤ x ∧ x < X + m) := by
  rcases Int.lt_trichotomy y Y with h | h | h
  · have h1 : (y + 1) * w ≤ Y * w := Int.mul_le_mul_of_nonneg_right (by omega) (by omega)
    rw [Int.add_mul, Int.one_mul] at h1
    omega
  · subst h; omega
  · have h1 : (Y + 1) * w ≤ y * w := Int.mul_le_mul_of_nonneg_right (by omega) (by omega)
    rw [Int.add_mul, Int.one_mul] at h1
    omega
theorem getD_of {l : List Ce} {i : Nat} : l.getD i ce0 = (l[i]?).getD ce0 := List.getD_eq_getElem?_getD ..
theorem put_getD {l : List Ce} {w g X Y m : Int} {rows : Nat → List Ce} (z : szOk w g l) (hX : 0 ≤ X ∧ X + m ≤ w) (hm : 0 ≤ m) {x y : Int} (hx : 0 ≤ x ∧ x < w) (hy : 0 ≤ y ∧ y < g) (hY : 0 ≤ Y) : ∀ n : Nat, Y + n ≤ g → (∀ k, k < n → ((rows k).length : Int) = m) → (putRows l w X Y rows n).getD (y * w + x).toNat ce0 = if X ≤ x ∧ x < X + m ∧ Y ≤ y ∧ y < Y + n then (rows (y - Y).toNat).getD (x - X).toNat ce0 else l.getD (y * w + x).toNat ce0
  | 0, _, _ => by rw [if_neg (by omega)]; rfl
  | n + 1, hn, hr => by
    have ih := put_getD z hX hm hx hy hY n (by omega) (fun k hk => hr k (by omega))
    have zz := z
    obtain ⟨z1, z2, z3, z4, z5⟩ := zz
    have m1 := sz_mul ⟨z1, z2⟩ z4 (y := Y + n) (by omega)
    have m2 := sz_mul ⟨z1, z2⟩ z4 hy
    rw [Int.mul_comm w g] at z5
    have hl := hr n (by omega)
    have ne := idx_ne (w := w) (x := x) (y := y) (X := X) (m := m) (Y := Y + n) z1 hx hX
    rw [putRows, getD_of, setAll_get _ _ _ _ (by rw [putRows_len]; omega)]
    by_cases hc : y = Y + n ∧ X ≤ x ∧ x < X + m
    · have := ne.2 hc
      rw [if_pos (by omega), if_pos (by omega), getD_of]
      obtain ⟨rfl, hx1, hx2⟩ := hc
      rw [show ((Y + n) * w + x).toNat - ((Y + n) * w + X).toNat = (x - X).toNat by omega, show (Y + n - Y).toNat = n by omega]
    · have : ¬((Y + ↑n) * w + X ≤ y * w + x ∧ y * w + x < (Y + ↑n) * w + X + m) := fun h => hc (ne.1 h)
      rw [if_neg (by omega), ← getD_of, ih]
      by_cases h2 : X ≤ x ∧ x < X + m ∧ Y ≤ y ∧ y < Y + n
      · rw [if_pos h2, if_pos (by omega)]
      · rw [if_neg h2, if_neg (by omega)]
theorem cell_put {l : List Ce} {w g X Y m x y : Int} {rows : Nat → List Ce} {n : Nat} (z : szOk w g l) (hX : 0 ≤ X ∧ X + m ≤ w) (hm : 0 ≤ m) (hY : 0 ≤ Y) (hn : Y + n ≤ g) (hr : ∀ k, k < n → ((rows k).length : Int) = m) : cell (putRows l w X Y rows n) w g x y = if X ≤ x ∧ x < X + m ∧ Y ≤ y ∧ y < Y + n then (rows (y - Y).toNat).getD (x - X).toNat ce0 else cell l w g x y := by
  unfold cell
  by_cases hin : inG w g x y = true
  · rw [if_pos hin, if_pos hin]
    obtain ⟨hx, hy⟩ := inG_iff.1 hin
    exact put_getD z hX hm hx hy hY n hn hr
  · rw [if_neg hin, if_neg hin]
    rw [if_neg (fun h => hin (inG_iff.2 (by omega)))]
theorem put_ok {l : List Ce} {w g X Y : Int} {rows : Nat → List Ce} {n : Nat} (z : szOk w g l) : szOk w g (putRows l w X Y rows n) := by unfold szOk; rw [putRows_len]; exact z
theorem idx_split {w : Int} {i : Nat} (hw : 1 ≤ w) : 0 ≤ (i : Int) % w ∧ (i : Int) % w < w ∧ 0 ≤ (i : Int) / w ∧ (i : Int) / w * w + (i : Int) % w = i := by
  have h1 := Int.emod_nonneg (i : Int) (show w ≠ 0 by omega)
  have h2 := Int.emod_lt_of_pos (i : Int) (show 0 < w by omega)
  have h3 : 0 ≤ (i : Int) / w := Int.ediv_nonneg (by omega) (by omega)
  have h4 := Int.mul_ediv_add_emod (i : Int) w
  rw [Int.mul_comm] at h4
  exact ⟨h1, h2, h3, h4⟩
theorem idx_in {w g : Int} {l : List Ce} {i : Nat} (z : szOk w g l) (hi : i < l.length) : inG w g ((i : Int) % w) ((i : Int) / w) = true ∧ ((i : Int) / w * w + (i : Int) % w).toNat = i := by
  obtain ⟨z1, z2, z3, z4, z5⟩ := z
  obtain ⟨h1, h2, h3, h4⟩ := idx_split (i := i) z1
  have h5 : (i : Int) / w < g := Int.ediv_lt_of_lt_mul (by omega) (by rw [Int.mul_comm g w]; omega)
  exact ⟨inG_iff.2 ⟨⟨h1, h2⟩, h3, h5⟩, by rw [h4]; omega⟩
theorem cells_ext {l m : List Ce} {w g : Int} (z : szOk w g l) (z' : szOk w g m) (h : ∀ x y, inG w g x y = true → cell l w g x y = cell m w g x y) : l = m := by
  have hl : l.length = m.length := by
    have := z.2.2.2.2; have := z'.2.2.2.2; omega
  refine List.ext_getElem hl (fun i h1 h2 => ?_)
  obtain ⟨hin, hi⟩ := idx_in z h1
  have := h _ _ hin
  unfold cell at this
  rw [if_pos hin, if_pos hin, hi, getD_of, getD_of, List.getElem?_eq_getElem h1, List.getElem?_eq_getElem h2] at this
  exact this
/-- Is a cell in a rectangle? -/
def Rc.has (r : Rc) (x y : Int) : Prop := r.x ≤ x ∧ x < r.x + r.w ∧ r.y ≤ y ∧ y < r.y + r.h
instance (r : Rc) (x y : Int) : Decidable (r.has x y) := by unfold Rc.has; infer_instance
theorem allR_right {w g : Int} (hw : 1 ≤ w ∧ w ≤ 512) (hg : 1 ≤ g ∧ g ≤ 512) : (allR w g).right = true := (Rc.right_iff _).2 (by unfold Rc.Ok allR; simp only; omega)
theorem both_has {a : Rc} {w g x y : Int} (hw : 1 ≤ w ∧ w ≤ 512) (hg : 1 ≤ g ∧ g ≤ 512) : (a.both (allR w g)).has x y ↔ a.right = true ∧ a.has x y ∧ inG w g x y = true := by
  rw [inG_iff]
  unfold Rc.both
  rw [allR_right hw hg, Bool.and_true]
  by_cases ha : a.right = true
  · rw [if_pos ha]
    obtain ⟨a1, a2, a3, a4⟩ := (Rc.right_iff _).1 ha
    unfold rof mx mn Rc.has allR
    simp only
    simp only [ha, true_and]
    split <;> split <;> split <;> split <;> split <;> (simp only; omega)
  · rw [if_neg ha]
    unfold Rc.has
    simp only [ha]
    simp
theorem both_area {a : Rc} {w g : Int} (hw : 1 ≤ w ∧ w ≤ 512) (hg : 1 ≤ g ∧ g ≤ 512) : (a.both (allR w g)).area = (a.both (allR w g)).w * (a.both (allR w g)).h ∧ (0 ≤ (a.both (allR w g)).x ∧ (a.both (allR w g)).x + (a.both (allR w g)).w ≤ w) ∧ (0 ≤ (a.both (allR w g)).y ∧ (a.both (allR w g)).y + (a.both (allR w g)).h ≤ g) ∧ 0 ≤ (a.both (allR w g)).w ∧ 0 ≤ (a.both (allR w g)).h := by
  cases he : (a.both (allR w g)).empty with
  | false =>
    obtain ⟨h1, h2, h3, h4, h5⟩ := both_in he
    have : (a.both (allR w g)).right = true := (Rc.right_iff _).2 (by unfold Rc.Ok; omega)
    refine ⟨by unfold Rc.area; rw [this, he]; rfl, by omega, by omega, by omega, by omega⟩
  | true =>
    unfold Rc.area
    rw [he, Bool.or_true, if_pos rfl]
    unfold Rc.empty at he
    simp only [Bool.or_eq_true, decide_eq_true_eq] at he
    generalize hq : a.both (allR w g) = q at he ⊢
    unfold Rc.both at hq
    split at hq
    · unfold rof at hq
      split at hq
      · rw [← hq]; simp; omega
      · rw [← hq] at he; simp only at he; omega
    · rw [← hq]; simp; omega
/-- How many of the first n numbers are in a range. -/
def cn (a m : Int) : Nat → Int
  | 0 => 0
  | n + 1 => cn a m n + (if a ≤ n ∧ n < a + m then 1 else 0)
theorem cn_all {a m : Int} (h0 : 0 ≤ a) (hm : 0 ≤ m) : ∀ n : Nat, cn a m n = (if (n : Int) ≤ a then 0 else if n ≤ a + m then n - a else m)
  | 0 => by rw [if_pos (by omega)]; rfl
  | n + 1 => by
    rw [cn, cn_all h0 hm n]
    split <;> split <;> split <;> (try split) <;> (try split) <;> omega
theorem cn_full {a m : Int} {n : Nat} (h0 : 0 ≤ a) (hm : 0 ≤ m) (hn : a + m ≤ n) : cn a m n = m := by
  rw [cn_all h0 hm]
  split <;> (try split) <;> omega
end Go.Proofs.YtmhhjpfkipficaaDoor

end
