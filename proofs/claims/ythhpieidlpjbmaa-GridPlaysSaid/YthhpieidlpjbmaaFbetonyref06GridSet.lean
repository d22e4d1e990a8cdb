/- The shallow reading of one function, and that the function does it. Written by a program. -/
import Derived.Test.YthhpieidlpjbmaaFnC
set_option linter.unusedVariables false
namespace Go.Proofs.Ythhpieidlpjbmaa
open Go Go.HW

def betonyref06_Grid_Set_j2 (R : Value → Heap → Prop) (x8 x9 : Value) (h_5 : Heap) : Prop :=
  sLdN h_5 x9 3 fun x33 =>
  sStN h_5 x8 x33 3 fun h_6 => 
  sLdN h_6 x8 3 fun r8 =>
  R r8 h_6
def betonyref06_Grid_Set_j1 (R : Value → Heap → Prop) (x1 x2 x4 x7 x8 x9 : Value) (h_3 : Heap) : Prop :=
  sLdN h_3 x4 3 fun x19 =>
  betonyref06_Grid_In_c x19 x1 x2 h_3 fun x22 h_4 => 
  sIf x22 (sOff x9 2 fun x23 =>
  sLd h_4 x23 fun x24 =>
  sOff x4 0 fun x26 =>
  sLd h_4 x26 fun x27 =>
  sMul .i64 x2 x27 fun x28 =>
  sAdd .i64 x28 x1 fun x30 =>
  sLdN h_4 x7 4 fun x31 =>
  sIxS x24 x30 4 fun x32 =>
  sStN h_4 x32 x31 4 fun h_7 => 
  betonyref06_Grid_Set_j2 R x8 x9 h_7) (betonyref06_Grid_Set_j2 R x8 x9 h_4)
def betonyref06_Grid_Set_S (x0 x1 x2 x3 : Value) (h : Heap) (R : Value → Heap → Prop) : Prop :=
  sBox h x0 37 fun x4 h => 
  sBox h x3 27 fun x7 h_1 => 
  sNew h_1 #[.int .i64 0, .int .i64 0, .slice none 0 0] 37 fun x8 h_2 => 
  ∃ C : Heap → Prop, C h_2 ∧ (sOff x4 0 fun x10 =>
  sLdC C x10 fun x11 =>
  sOff x4 1 fun x12 =>
  sLdC C x12 fun x13 =>
  sOff x4 2 fun x15 =>
  sLdC C x15 fun x16 =>
  (sSlit h_2 #[] [] 27 0 fun x14 h_8 => C h_8 ∧ (
  (sApp h_8 x14 x16 #[.int .i32 0, .int .i64 0, .int .i64 0, .int .i64 0] 27 32 fun x17 h_9 => C h_9 ∧ (
  sBuild #[.int .i64 0, .int .i64 0, .slice none 0 0] [(0, 1, x11), (1, 1, x13), (2, 1, x17)] fun x18 =>
  sNew h_9 #[.int .i64 0, .int .i64 0, .slice none 0 0] 37 fun x9_1 h_10 => C h_10 ∧ (
  sStN h_10 x9_1 x18 3 fun h_11 => 
  betonyref06_Grid_Set_j1 R x1 x2 x4 x7 x8 x9_1 h_11))) ∧
  (sNew h_8 #[.int .i64 0, .int .i64 0, .slice none 0 0] 37 fun x9_2 h_12 => C h_12 ∧ (
  sApp h_12 x14 x16 #[.int .i32 0, .int .i64 0, .int .i64 0, .int .i64 0] 27 32 fun x17_1 h_13 => C h_13 ∧ (
  sBuild #[.int .i64 0, .int .i64 0, .slice none 0 0] [(0, 1, x11), (1, 1, x13), (2, 1, x17_1)] fun x18_1 =>
  sStN h_13 x9_2 x18_1 3 fun h_14 => 
  betonyref06_Grid_Set_j1 R x1 x2 x4 x7 x8 x9_2 h_14))))) ∧
  (sNew h_2 #[.int .i64 0, .int .i64 0, .slice none 0 0] 37 fun x9_3 h_15 => C h_15 ∧ (
  sSlit h_15 #[] [] 27 0 fun x14_1 h_16 => C h_16 ∧ (
  sApp h_16 x14_1 x16 #[.int .i32 0, .int .i64 0, .int .i64 0, .int .i64 0] 27 32 fun x17_2 h_17 => C h_17 ∧ (
  sBuild #[.int .i64 0, .int .i64 0, .slice none 0 0] [(0, 1, x11), (1, 1, x13), (2, 1, x17_2)] fun x18_2 =>
  sStN h_17 x9_3 x18_2 3 fun h_18 => 
  betonyref06_Grid_Set_j1 R x1 x2 x4 x7 x8 x9_3 h_18)))))
set_option maxRecDepth 100000 in
theorem betonyref06_Grid_Set_runs {x0 x1 x2 x3 : Value} {h : Heap} {R : Value → Heap → Prop} (H : betonyref06_Grid_Set_S x0 x1 x2 x3 h R) : betonyref06_Grid_Set_c x0 x1 x2 x3 h R := by
  unfold betonyref06_Grid_Set_S at H
  refine runs_of (b := ⟨#[x0, x1, x2, x3, undef, undef, undef, undef, undef, undef, undef, undef, undef, undef, undef, undef, undef, undef, undef, undef, undef, undef, undef, undef, undef, undef, undef, undef, undef, undef, undef, undef, undef, undef], []⟩) Try.call18 Try.func18 rfl (by kernel_rfl) (fun w0 HA => ?_)
  refine wp_seq ?_
  refine lwp_list ?_
  refine ls_d (d := some 4) (by kernel_rfl) (by kernel_rfl) HA (d_box (by kernel_rfl) H) (fun x4 h w H HA => ?_)
  refine ls_d (d := some 7) (by kernel_rfl) (by kernel_rfl) HA (d_box (by kernel_rfl) H) (fun x7 h_1 w_1 H HA_1 => ?_)
  refine ls_d (d := some 8) (by kernel_rfl) (by kernel_rfl) HA_1 (d_alloc Try.zeroValue37 H) (fun x8 h_2 w_2 H HA_2 => ?_)
  refine ls_nil ?_
  refine then_normal ?_
  refine fr_eq (b := ⟨#[x0, x1, x2, x3, x4, undef, undef, x7, x8, undef, undef, undef, undef, undef, undef, undef, undef, undef, undef, undef, undef, undef, undef, undef, undef, undef, undef, undef, undef, undef, undef, undef, undef, undef], []⟩) (by kernel_rfl) ?_
  refine wp_seq ?_
  refine wp_join (fun a w => ∃ (D : Nat → Value) (x9 : Value) (h_3 : Heap), a = ⟨#[x0, x1, x2, x3, x4, undef, undef, x7, x8, x9, (D 0), (D 1), (D 2), (D 3), (D 4), (D 5), (D 6), (D 7), (D 8), undef, undef, undef, undef, undef, undef, undef, undef, undef, undef, undef, undef, undef, undef, undef], []⟩ ∧ At w0 w h_3 ∧ betonyref06_Grid_Set_j1 R x1 x2 x4 x7 x8 x9 h_3) ?_ ?_
  · obtain ⟨C, HC, H⟩ := H
    refine lwp_pl (Nat.testBit 1680) (Nat.testBit 656) (Nat.testBit 293) [0, 1, 0, 4, 0, 0, 32, 112, 255, 0, 1023] (Nat.testBit 0) C (.op 0 (.op 1 (.op 2 (.op 3 (.op 5 (.op 6 (.alt (.op 4 (.alt (.op 7 (.op 8 (.op 9 (.op 10 .done)))) (.op 9 (.op 7 (.op 8 (.op 10 .done)))))) (.op 9 (.op 4 (.op 7 (.op 8 (.op 10 .done)))))))))))) (by kernel_rfl) (by kernel_rfl) (by kernel_rfl) HA_2 HC ?_
    intro w_8 HA_8
    refine lp_p (d := some 10) (by kernel_rfl) rfl (by kernel_rfl) (by kernel_rfl) (p_off Try.underlying37 rfl (fun w => ⟨_, Try.sizeOf3 w⟩) rfl (by kernel_rfl) H) (fun x10 H => ?_)
    refine lp_f (d := some 11) (by kernel_rfl) rfl (by kernel_rfl) (by kernel_rfl) (by kernel_rfl) (by kernel_rfl) (c_ld Try.isAgg3 (by kernel_rfl) H) (fun x11 H => ?_)
    refine lp_p (d := some 12) (by kernel_rfl) rfl (by kernel_rfl) (by kernel_rfl) (p_off Try.underlying37 rfl (fun w => ⟨_, Try.sizeOf3 w⟩) rfl (by kernel_rfl) H) (fun x12 H => ?_)
    refine lp_f (d := some 13) (by kernel_rfl) rfl (by kernel_rfl) (by kernel_rfl) (by kernel_rfl) (by kernel_rfl) (c_ld Try.isAgg3 (by kernel_rfl) H) (fun x13 H => ?_)
    refine lp_p (d := some 15) (by kernel_rfl) rfl (by kernel_rfl) (by kernel_rfl) (p_off Try.underlying37 rfl (fun w => ⟨_, Try.sizeOf35 w⟩) rfl (by kernel_rfl) H) (fun x15 H => ?_)
    refine lp_f (d := some 16) (by kernel_rfl) rfl (by kernel_rfl) (by kernel_rfl) (by kernel_rfl) (by kernel_rfl) (c_ld Try.isAgg35 (by kernel_rfl) H) (fun x16 H => ?_)
    refine lp_fr (b := ⟨#[x0, x1, x2, x3, x4, undef, undef, x7, x8, undef, x10, x11, x12, x13, undef, x15, x16, undef, undef, undef, undef, undef, undef, undef, undef, undef, undef, undef, undef, undef, undef, undef, undef, undef], []⟩) (by kernel_rfl) ?_
    obtain ⟨Ha, Hb⟩ := H
    refine lp_alt ?_ ?_
    · have H := Ha
      clear Ha Hb
      refine lp_dc (d := some 14) (by kernel_rfl) rfl (by kernel_rfl) (by kernel_rfl) (by kernel_rfl) HA_8 (d_slit (zc := #[]) Try.underlying35 Try.sizeOf27 (by decide) (.inl ⟨(by kernel_rfl), (by kernel_rfl)⟩) (by kernel_rfl) (by kernel_rfl) H) (fun x14 h_8 w_9 H HA_9 => ?_)
      obtain ⟨Ha, Hb⟩ := H
      refine lp_alt ?_ ?_
      · have H := Ha
        clear Ha Hb
        refine lp_dc (d := some 17) (by kernel_rfl) rfl (by kernel_rfl) (by kernel_rfl) (by kernel_rfl) HA_9 (d_app (z := #[.int .i32 0, .int .i64 0, .int .i64 0, .int .i64 0]) Try.underlying35 Try.underlying35 (.inl ⟨_, rfl⟩) Try.typeInfo27 (by kernel_rfl) Try.sizeOf27 Try.zeroValue27 (by kernel_rfl) (by kernel_rfl) (by kernel_rfl) H) (fun x17 h_9 w_10 H HA_10 => ?_)
        refine lp_p (d := some 18) (by kernel_rfl) rfl (by kernel_rfl) (by kernel_rfl) (p_lit (pl := [(0, 1), (1, 1), (2, 1)]) Try.zeroValue37 Try.underlying37 ⟨(by kernel_rfl), Try.sizeOf3, (by kernel_rfl), Try.sizeOf3, (by kernel_rfl), Try.sizeOf35, trivial⟩ (by kernel_rfl) (by kernel_rfl) H) (fun x18 H => ?_)
        refine lp_dc (d := some 9) (by kernel_rfl) rfl (by kernel_rfl) (by kernel_rfl) (by kernel_rfl) HA_10 (d_alloc Try.zeroValue37 H) (fun x9_1 h_10 w_11 H HA_11 => ?_)
        refine lp_d (d := none) (by kernel_rfl) rfl (by kernel_rfl) (by kernel_rfl) (by kernel_rfl) HA_11 (d_stn Try.sizeOf37 (by kernel_rfl) (by kernel_rfl) H) (fun _ h_11 w_12 H HA_12 => ?_)
        refine lp_nil ?_
        exact ⟨(fun i => ([x10, x11, x12, x13, x14, x15, x16, x17, x18]).getD i undef), x9_1, h_11, by kernel_rfl, HA_12, H⟩
      · have H := Hb
        clear Ha Hb
        refine lp_dc (d := some 9) (by kernel_rfl) rfl (by kernel_rfl) (by kernel_rfl) (by kernel_rfl) HA_9 (d_alloc Try.zeroValue37 H) (fun x9_2 h_12 w_13 H HA_13 => ?_)
        refine lp_dc (d := some 17) (by kernel_rfl) rfl (by kernel_rfl) (by kernel_rfl) (by kernel_rfl) HA_13 (d_app (z := #[.int .i32 0, .int .i64 0, .int .i64 0, .int .i64 0]) Try.underlying35 Try.underlying35 (.inl ⟨_, rfl⟩) Try.typeInfo27 (by kernel_rfl) Try.sizeOf27 Try.zeroValue27 (by kernel_rfl) (by kernel_rfl) (by kernel_rfl) H) (fun x17_1 h_13 w_14 H HA_14 => ?_)
        refine lp_p (d := some 18) (by kernel_rfl) rfl (by kernel_rfl) (by kernel_rfl) (p_lit (pl := [(0, 1), (1, 1), (2, 1)]) Try.zeroValue37 Try.underlying37 ⟨(by kernel_rfl), Try.sizeOf3, (by kernel_rfl), Try.sizeOf3, (by kernel_rfl), Try.sizeOf35, trivial⟩ (by kernel_rfl) (by kernel_rfl) H) (fun x18_1 H => ?_)
        refine lp_d (d := none) (by kernel_rfl) rfl (by kernel_rfl) (by kernel_rfl) (by kernel_rfl) HA_14 (d_stn Try.sizeOf37 (by kernel_rfl) (by kernel_rfl) H) (fun _ h_14 w_15 H HA_15 => ?_)
        refine lp_nil ?_
        exact ⟨(fun i => ([x10, x11, x12, x13, x14, x15, x16, x17_1, x18_1]).getD i undef), x9_2, h_14, by kernel_rfl, HA_15, H⟩
    · have H := Hb
      clear Ha Hb
      refine lp_dc (d := some 9) (by kernel_rfl) rfl (by kernel_rfl) (by kernel_rfl) (by kernel_rfl) HA_8 (d_alloc Try.zeroValue37 H) (fun x9_3 h_15 w_16 H HA_16 => ?_)
      refine lp_dc (d := some 14) (by kernel_rfl) rfl (by kernel_rfl) (by kernel_rfl) (by kernel_rfl) HA_16 (d_slit (zc := #[]) Try.underlying35 Try.sizeOf27 (by decide) (.inl ⟨(by kernel_rfl), (by kernel_rfl)⟩) (by kernel_rfl) (by kernel_rfl) H) (fun x14_1 h_16 w_17 H HA_17 => ?_)
      refine lp_dc (d := some 17) (by kernel_rfl) rfl (by kernel_rfl) (by kernel_rfl) (by kernel_rfl) HA_17 (d_app (z := #[.int .i32 0, .int .i64 0, .int .i64 0, .int .i64 0]) Try.underlying35 Try.underlying35 (.inl ⟨_, rfl⟩) Try.typeInfo27 (by kernel_rfl) Try.sizeOf27 Try.zeroValue27 (by kernel_rfl) (by kernel_rfl) (by kernel_rfl) H) (fun x17_2 h_17 w_18 H HA_18 => ?_)
      refine lp_p (d := some 18) (by kernel_rfl) rfl (by kernel_rfl) (by kernel_rfl) (p_lit (pl := [(0, 1), (1, 1), (2, 1)]) Try.zeroValue37 Try.underlying37 ⟨(by kernel_rfl), Try.sizeOf3, (by kernel_rfl), Try.sizeOf3, (by kernel_rfl), Try.sizeOf35, trivial⟩ (by kernel_rfl) (by kernel_rfl) H) (fun x18_2 H => ?_)
      refine lp_d (d := none) (by kernel_rfl) rfl (by kernel_rfl) (by kernel_rfl) (by kernel_rfl) HA_18 (d_stn Try.sizeOf37 (by kernel_rfl) (by kernel_rfl) H) (fun _ h_18 w_19 H HA_19 => ?_)
      refine lp_nil ?_
      exact ⟨(fun i => ([x10, x11, x12, x13, x14_1, x15, x16, x17_2, x18_2]).getD i undef), x9_3, h_18, by kernel_rfl, HA_19, H⟩
  · rintro _ w_3 ⟨D, x9, h_3, rfl, HA_3, H⟩
    unfold betonyref06_Grid_Set_j1 at H
    refine then_normal ?_
    refine fr_eq (b := ⟨#[x0, x1, x2, x3, x4, undef, undef, x7, x8, x9, (D 0), (D 1), (D 2), (D 3), (D 4), (D 5), (D 6), (D 7), (D 8), undef, undef, undef, undef, undef, undef, undef, undef, undef, undef, undef, undef, undef, undef, undef], []⟩) (by kernel_rfl) ?_
    refine wp_seq ?_
    refine wp_seq ?_
    refine lwp_list ?_
    refine ls_y (d := some 19) (by kernel_rfl) (by kernel_rfl) HA_3 (y_ldn Try.isAgg37 Try.sizeOf37 (by kernel_rfl) H) (fun x19 H => ?_)
    refine ls_move (x := x1) (by kernel_rfl) (by kernel_rfl) ?_
    refine ls_move (x := x2) (by kernel_rfl) (by kernel_rfl) ?_
    refine ls_d (d := some 22) (by kernel_rfl) (by kernel_rfl) HA_3 (d_call (by kernel_rfl) (by kernel_rfl) H) (fun x22 h_4 w_4 H HA_4 => ?_)
    refine ls_nil ?_
    refine then_normal ?_
    refine fr_eq (b := ⟨#[x0, x1, x2, x3, x4, undef, undef, x7, x8, x9, (D 0), (D 1), (D 2), (D 3), (D 4), (D 5), (D 6), (D 7), (D 8), x19, x1, x2, x22, undef, undef, undef, undef, undef, undef, undef, undef, undef, undef, undef], []⟩) (by kernel_rfl) ?_
    refine wp_join (fun a w => ∃ (D_1 : Nat → Value) (h_5 : Heap), a = ⟨#[x0, x1, x2, x3, x4, undef, undef, x7, x8, x9, (D 0), (D 1), (D 2), (D 3), (D 4), (D 5), (D 6), (D 7), (D 8), x19, x1, x2, x22, (D_1 0), (D_1 1), (D_1 2), (D_1 3), (D_1 4), (D_1 5), (D_1 6), (D_1 7), (D_1 8), (D_1 9), undef], []⟩ ∧ At w0 w h_5 ∧ betonyref06_Grid_Set_j2 R x8 x9 h_5) ?_ ?_
    · refine wp_if rfl H (fun H => ?_) (fun H => ?_)
      · refine lwp_list ?_
        refine ls_p (d := some 23) (by kernel_rfl) (by kernel_rfl) (p_off Try.underlying37 rfl (fun w => ⟨_, Try.sizeOf35 w⟩) rfl (by kernel_rfl) H) (fun x23 H => ?_)
        refine ls_y (d := some 24) (by kernel_rfl) (by kernel_rfl) HA_4 (y_ld Try.isAgg35 (by kernel_rfl) H) (fun x24 H => ?_)
        refine ls_move (x := x2) (by kernel_rfl) (by kernel_rfl) ?_
        refine ls_p (d := some 26) (by kernel_rfl) (by kernel_rfl) (p_off Try.underlying37 rfl (fun w => ⟨_, Try.sizeOf3 w⟩) rfl (by kernel_rfl) H) (fun x26 H => ?_)
        refine ls_y (d := some 27) (by kernel_rfl) (by kernel_rfl) HA_4 (y_ld Try.isAgg3 (by kernel_rfl) H) (fun x27 H => ?_)
        refine ls_p (d := some 28) (by kernel_rfl) (by kernel_rfl) (p_mul (by kernel_rfl) (by kernel_rfl) H) (fun x28 H => ?_)
        refine ls_fr (b := ⟨#[x0, x1, x2, x3, x4, undef, undef, x7, x8, x9, (D 0), (D 1), (D 2), (D 3), (D 4), (D 5), (D 6), (D 7), (D 8), x19, x1, x2, x22, x23, x24, x2, x26, x27, x28, undef, undef, undef, undef, undef], []⟩) (by kernel_rfl) ?_
        refine ls_move (x := x1) (by kernel_rfl) (by kernel_rfl) ?_
        refine ls_p (d := some 30) (by kernel_rfl) (by kernel_rfl) (p_add (by kernel_rfl) (by kernel_rfl) H) (fun x30 H => ?_)
        refine ls_y (d := some 31) (by kernel_rfl) (by kernel_rfl) HA_4 (y_ldn Try.isAgg27 Try.sizeOf27 (by kernel_rfl) H) (fun x31 H => ?_)
        refine ls_p (d := some 32) (by kernel_rfl) (by kernel_rfl) (p_ixs Try.underlying35 Try.sizeOf27 (by kernel_rfl) (by kernel_rfl) H) (fun x32 H => ?_)
        refine ls_d (d := none) (by kernel_rfl) (by kernel_rfl) HA_4 (d_stn Try.sizeOf27 (by kernel_rfl) (by kernel_rfl) H) (fun _ h_7 w_7 H HA_7 => ?_)
        refine ls_nil ?_
        exact ⟨(fun i => ([x23, x24, x2, x26, x27, x28, x1, x30, x31, x32]).getD i undef), h_7, by kernel_rfl, HA_7, H⟩
      · refine wp_skip ?_
        exact ⟨(fun i => ([undef, undef, undef, undef, undef, undef, undef, undef, undef, undef]).getD i undef), h_4, by kernel_rfl, HA_4, H⟩
    · rintro _ w_5 ⟨D_1, h_5, rfl, HA_5, H⟩
      unfold betonyref06_Grid_Set_j2 at H
      refine then_normal ?_
      refine fr_eq (b := ⟨#[x0, x1, x2, x3, x4, undef, undef, x7, x8, x9, (D 0), (D 1), (D 2), (D 3), (D 4), (D 5), (D 6), (D 7), (D 8), x19, x1, x2, x22, (D_1 0), (D_1 1), (D_1 2), (D_1 3), (D_1 4), (D_1 5), (D_1 6), (D_1 7), (D_1 8), (D_1 9), undef], []⟩) (by kernel_rfl) ?_
      refine wp_seq ?_
      refine lwp_list ?_
      refine ls_y (d := some 33) (by kernel_rfl) (by kernel_rfl) HA_5 (y_ldn Try.isAgg37 Try.sizeOf37 (by kernel_rfl) H) (fun x33 H => ?_)
      refine ls_d (d := none) (by kernel_rfl) (by kernel_rfl) HA_5 (d_stn Try.sizeOf37 (by kernel_rfl) (by kernel_rfl) H) (fun _ h_6 w_6 H HA_6 => ?_)
      refine ls_nil ?_
      refine then_normal ?_
      refine fr_eq (b := ⟨#[x0, x1, x2, x3, x4, undef, undef, x7, x8, x9, (D 0), (D 1), (D 2), (D 3), (D 4), (D 5), (D 6), (D 7), (D 8), x19, x1, x2, x22, (D_1 0), (D_1 1), (D_1 2), (D_1 3), (D_1 4), (D_1 5), (D_1 6), (D_1 7), (D_1 8), (D_1 9), x33], []⟩) (by kernel_rfl) ?_
      refine wp_ret ?_
      obtain ⟨r8, hr8, H⟩ := ld_n Try.isAgg37 Try.sizeOf37 H
      exact endR (vs := [r8]) (Try.results18) (by kernel_rfl) ⟨⟨_, (by kernel_rfl), hr8⟩, trivial⟩ HA_6 H _ (.inr rfl)

end Go.Proofs.Ythhpieidlpjbmaa
