/- The shallow reading of one function, and that the function does it. Written by a program. -/
import Derived.Test.YthhpieidlpjbmaaFnC
set_option linter.unusedVariables false
namespace Go.Proofs.Ythhpieidlpjbmaa
open Go Go.HW

def grid_Grid_Blit_l4 (R : Value → Heap → Prop) (x1 x12 x13 x100 : Value) (next : Value → Heap → Prop) (x101 : Value) (h_15 : Heap) : Prop :=
  sLt x101 x100 fun x102 =>
  sIf x102 (sIxS x13 x101 1 fun x104 =>
  sLd h_15 x104 fun x105 =>
  ∃ C_2 : Heap → Prop, C_2 h_15 ∧ (sOff x12 1 fun x107 =>
  sLd h_15 x107 fun x108 =>
  sAdd .i64 x108 x101 fun x110 =>
  grid_Grid_row_c x1 x110 h_15 fun x111 h_16 => C_2 h_16 ∧ (
  sOff x12 0 fun x112 =>
  sLdC C_2 x112 fun x113 =>
  sSl x111 (some x113) none 4 fun x114 =>
  sCopy h_16 x114 x105 4 fun x116 h_17 => 
  sAdd .i64 x101 (.int .i64 1) fun x117 =>
  next x117 h_17))) (sLdN h_15 x12 4 fun x118 =>
  rect_Area_c x118 h_15 fun x119 h_18 => 
  R x119 h_18)
def grid_Grid_Blit_l3 (R : Value → Heap → Prop) (x0 x1 x3 x4 x7 x12 x66 : Value) (next : Value → Value → Heap → Prop) (x13 x67 : Value) (h_10 : Heap) : Prop :=
  sLt x67 x66 fun x68 =>
  sIf x68 (sOff x12 0 fun x70 =>
  sLd h_10 x70 fun x71 =>
  sSub .i64 x71 x3 fun x73 =>
  sOff x7 0 fun x74 =>
  sLd h_10 x74 fun x75 =>
  sAdd .i64 x73 x75 fun x76 =>
  ∃ C_1 : Heap → Prop, C_1 h_10 ∧ (sOff x12 1 fun x79 =>
  sLd h_10 x79 fun x80 =>
  sSub .i64 x80 x4 fun x82 =>
  sOff x7 1 fun x83 =>
  sLd h_10 x83 fun x84 =>
  sAdd .i64 x82 x84 fun x85 =>
  sAdd .i64 x85 x67 fun x87 =>
  grid_Grid_row_c x0 x87 h_10 fun x88 h_11 => C_1 h_11 ∧ (
  sOff x12 2 fun x91 =>
  sLdC C_1 x91 fun x92 =>
  sAdd .i64 x76 x92 fun x93 =>
  sSl x88 (some x76) (some x93) 4 fun x94 =>
  slices_Clone_api_Cell_api_Cell_c x94 h_11 fun x95 h_12 => 
  sSlit h_12 #[.slice none 0 0] [(0, 1, x95)] 35 1 fun x96 h_13 => 
  sApp h_13 x13 x96 #[.slice none 0 0] 35 24 fun x97 h_14 => 
  sAdd .i64 x67 (.int .i64 1) fun x98 =>
  next x97 x98 h_14))) (sLen x13 fun x100 =>
  sLoop (S := Value) (fun nxt s h => grid_Grid_Blit_l4 R x1 x12 x13 x100 (fun x101' h => nxt x101' h) s h) (.int .i64 0) h_10)
def grid_Grid_Blit_j2 (R : Value → Heap → Prop) (x0 x1 x3 x4 x7 x11 x12 : Value) (h_7 : Heap) : Prop :=
  sLdN h_7 x11 4 fun x59 =>
  rect_Empty_c x59 h_7 fun x60 h_8 => 
  sOrH x60 h_8 (fun k =>
  sLdN h_8 x12 4 fun x62 =>
  rect_Empty_c x62 h_8 fun x63 h_19 => 
  k x63 h_19) fun x64 h_9 =>
  sIf x64 (R (.int .i64 0) h_9) (sOff x12 3 fun x65 =>
  sLd h_9 x65 fun x66 =>
  sLoop (S := Value × Value) (fun nxt s h => grid_Grid_Blit_l3 R x0 x1 x3 x4 x7 x12 x66 (fun x13' x67' h => nxt (x13', x67') h) s.1 s.2 h) ((.slice none 0 0), (.int .i64 0)) h_9)
def grid_Grid_Blit_j1 (R : Value → Heap → Prop) (x0 x1 x3 x4 x7 x11 : Value) (h_4 : Heap) : Prop :=
  ∃ C : Heap → Prop, C h_4 ∧ (sOff x11 0 fun x39 =>
  sLd h_4 x39 fun x40 =>
  sAdd .i64 x40 x3 fun x42 =>
  sOff x7 0 fun x43 =>
  sLd h_4 x43 fun x44 =>
  sSub .i64 x42 x44 fun x45 =>
  sOff x11 1 fun x46 =>
  sLd h_4 x46 fun x47 =>
  sAdd .i64 x47 x4 fun x49 =>
  sOff x7 1 fun x50 =>
  sLdC C x50 fun x51 =>
  sSub .i64 x49 x51 fun x52 =>
  sOff x11 0 fun x53 =>
  sSt h_4 x53 x45 fun h_5 => C h_5 ∧ (
  sOff x11 1 fun x54 =>
  sSt h_5 x54 x52 fun h_6 => 
  ∃ C_3 : Heap → Prop, C_3 h_6 ∧ (sLdNC C_3 x11 4 fun x55 =>
  (grid_Grid_all_c x1 h_6 fun x57 h_20 => C_3 h_20 ∧ (
  (rect_Both_c x55 x57 h_20 fun x58 h_21 => 
  sNew h_21 #[.int .i64 0, .int .i64 0, .int .i64 0, .int .i64 0] 23 fun x12_1 h_22 => C_3 h_22 ∧ (
  sStN h_22 x12_1 x58 4 fun h_23 => 
  grid_Grid_Blit_j2 R x0 x1 x3 x4 x7 x11 x12_1 h_23)) ∧
  (sNew h_20 #[.int .i64 0, .int .i64 0, .int .i64 0, .int .i64 0] 23 fun x12_2 h_24 => C_3 h_24 ∧ (
  rect_Both_c x55 x57 h_24 fun x58_1 h_25 => 
  sStN h_25 x12_2 x58_1 4 fun h_26 => 
  grid_Grid_Blit_j2 R x0 x1 x3 x4 x7 x11 x12_2 h_26)))) ∧
  (sNew h_6 #[.int .i64 0, .int .i64 0, .int .i64 0, .int .i64 0] 23 fun x12_3 h_27 => C_3 h_27 ∧ (
  grid_Grid_all_c x1 h_27 fun x57_1 h_28 => C_3 h_28 ∧ (
  rect_Both_c x55 x57_1 h_28 fun x58_2 h_29 => 
  sStN h_29 x12_3 x58_2 4 fun h_30 => 
  grid_Grid_Blit_j2 R x0 x1 x3 x4 x7 x11 x12_3 h_30))))))
def grid_Grid_Blit_S (x0 x1 x2 x3 x4 : Value) (h : Heap) (R : Value → Heap → Prop) : Prop :=
  sBox h x2 23 fun x7 h => 
  sEqlNil x1 fun x19 =>
  sOrH x19 h (fun k_3 =>
  sLdN h x7 4 fun x21 =>
  rect_Right_c x21 h fun x22 h_44 => 
  sNot x22 fun x23 =>
  k_3 x23 h_44) fun x24 h_1 =>
  sOrH x24 h_1 (fun k_2 =>
  grid_near_c x3 h_1 fun x27 h_43 => 
  sNot x27 fun x28 =>
  k_2 x28 h_43) fun x29 h_2 =>
  sOrH x29 h_2 (fun k_1 =>
  grid_near_c x4 h_2 fun x32 h_42 => 
  sNot x32 fun x33 =>
  k_1 x33 h_42) fun x34 h_3 =>
  sIf x34 (R (.int .i64 0) h_3) (∃ C_4 : Heap → Prop, C_4 h_3 ∧ (sLdNC C_4 x7 4 fun x35 =>
  (grid_Grid_all_c x0 h_3 fun x37 h_31 => C_4 h_31 ∧ (
  (rect_Both_c x35 x37 h_31 fun x38 h_32 => 
  sNew h_32 #[.int .i64 0, .int .i64 0, .int .i64 0, .int .i64 0] 23 fun x11_1 h_33 => C_4 h_33 ∧ (
  sStN h_33 x11_1 x38 4 fun h_34 => 
  grid_Grid_Blit_j1 R x0 x1 x3 x4 x7 x11_1 h_34)) ∧
  (sNew h_31 #[.int .i64 0, .int .i64 0, .int .i64 0, .int .i64 0] 23 fun x11_2 h_35 => C_4 h_35 ∧ (
  rect_Both_c x35 x37 h_35 fun x38_1 h_36 => 
  sStN h_36 x11_2 x38_1 4 fun h_37 => 
  grid_Grid_Blit_j1 R x0 x1 x3 x4 x7 x11_2 h_37)))) ∧
  (sNew h_3 #[.int .i64 0, .int .i64 0, .int .i64 0, .int .i64 0] 23 fun x11_3 h_38 => C_4 h_38 ∧ (
  grid_Grid_all_c x0 h_38 fun x37_1 h_39 => C_4 h_39 ∧ (
  rect_Both_c x35 x37_1 h_39 fun x38_2 h_40 => 
  sStN h_40 x11_3 x38_2 4 fun h_41 => 
  grid_Grid_Blit_j1 R x0 x1 x3 x4 x7 x11_3 h_41)))))
set_option maxRecDepth 100000 in
theorem grid_Grid_Blit_runs {x0 x1 x2 x3 x4 : Value} {h : Heap} {R : Value → Heap → Prop} (H : grid_Grid_Blit_S x0 x1 x2 x3 x4 h R) : grid_Grid_Blit_c x0 x1 x2 x3 x4 h R := by
  unfold grid_Grid_Blit_S at H
  refine runs_of (b := ⟨([x0, x1, x2, x3, x4, undef, undef, undef, undef, undef, undef, undef, undef, undef, undef, undef, undef, undef, undef, undef, undef, undef, undef, undef, undef, undef, undef, undef, undef, undef, undef, undef, undef, undef, undef, undef, undef, undef, undef, undef, undef, undef, undef, undef, undef, undef, undef, undef, undef, undef] ++ [undef, undef, undef, undef, undef, undef, undef, undef, undef, undef, undef, undef, undef, undef, undef, undef, undef, undef, undef, undef, undef, undef, undef, undef, undef, undef, undef, undef, undef, undef, undef, undef, undef, undef, undef, undef, undef, undef, undef, undef, undef, undef, undef, undef, undef, undef, undef, undef, undef, undef] ++ [undef, undef, undef, undef, undef, undef, undef, undef, undef, undef, undef, undef, undef, undef, undef, undef, undef, undef, undef, undef]).toArray, []⟩) Try.call23 Try.func23 rfl (by kernel_rfl) (fun w0 HA => ?_)
  refine wp_seq ?_
  refine lwp_list ?_
  refine ls_d (d := some 7) (by kernel_rfl) (by kernel_rfl) HA (d_box (by kernel_rfl) H) (fun x7 h w H HA => ?_)
  refine ls_assign (x := (.int .i64 0)) (by kernel_rfl) (by kernel_rfl) ?_
  refine ls_nil ?_
  refine then_normal ?_
  refine fr_eq (b := ⟨([x0, x1, x2, x3, x4, undef, undef, x7, undef, undef, (.int .i64 0), undef, undef, undef, undef, undef, undef, undef, undef, undef, undef, undef, undef, undef, undef, undef, undef, undef, undef, undef, undef, undef, undef, undef, undef, undef, undef, undef, undef, undef, undef, undef, undef, undef, undef, undef, undef, undef, undef, undef] ++ [undef, undef, undef, undef, undef, undef, undef, undef, undef, undef, undef, undef, undef, undef, undef, undef, undef, undef, undef, undef, undef, undef, undef, undef, undef, undef, undef, undef, undef, undef, undef, undef, undef, undef, undef, undef, undef, undef, undef, undef, undef, undef, undef, undef, undef, undef, undef, undef, undef, undef] ++ [undef, undef, undef, undef, undef, undef, undef, undef, undef, undef, undef, undef, undef, undef, undef, undef, undef, undef, undef, undef]).toArray, []⟩) (by kernel_rfl) ?_
  refine wp_seq ?_
  refine wp_seq ?_
  refine lwp_list ?_
  refine ls_move (x := x1) (by kernel_rfl) (by kernel_rfl) ?_
  refine ls_p (d := some 19) (by kernel_rfl) (by kernel_rfl) (p_eqlNil Try.underlying28 (by kernel_rfl) (by kernel_rfl) H) (fun x19 H => ?_)
  refine ls_move (x := x19) (by kernel_rfl) (by kernel_rfl) ?_
  refine ls_orh [(), (), (), ()] (fun K a w => ∃ (D : Nat → Value) (x24 : Value) (h_1 : Heap), a = ⟨([x0, x1, x2, x3, x4, undef, undef, x7, undef, undef, (.int .i64 0), undef, undef, undef, undef, undef, undef, undef, x1, x19, x19, (D 0), (D 1), (D 2), x24, undef, undef, undef, undef, undef, undef, undef, undef, undef, undef, undef, undef, undef, undef, undef, undef, undef, undef, undef, undef, undef, undef, undef, undef, undef] ++ [undef, undef, undef, undef, undef, undef, undef, undef, undef, undef, undef, undef, undef, undef, undef, undef, undef, undef, undef, undef, undef, undef, undef, undef, undef, undef, undef, undef, undef, undef, undef, undef, undef, undef, undef, undef, undef, undef, undef, undef, undef, undef, undef, undef, undef, undef, undef, undef, undef, undef] ++ [undef, undef, undef, undef, undef, undef, undef, undef, undef, undef, undef, undef, undef, undef, undef, undef, undef, undef, undef, undef]).toArray, []⟩ ∧ At w0 w h_1 ∧ K x24 h_1) H (fun hb_3 H => ?_) (fun hb_3 H => ?_) ?_
  · refine ls_y (d := some 21) (by kernel_rfl) (by rw [hb_3]; kernel_rfl) HA (y_ldn Try.isAgg23 Try.sizeOf23 (by kernel_rfl) H) (fun x21 H => ?_)
    refine ls_d (d := some 22) (by kernel_rfl) (by rw [hb_3]; kernel_rfl) HA (d_call (by kernel_rfl) (by kernel_rfl) H) (fun x22 h_44 w_49 H HA_49 => ?_)
    refine ls_p (d := some 23) (by kernel_rfl) (by rw [hb_3]; kernel_rfl) (p_not (by kernel_rfl) H) (fun x23 H => ?_)
    refine ls_fr (b := ⟨([x0, x1, x2, x3, x4, undef, undef, x7, undef, undef, (.int .i64 0), undef, undef, undef, undef, undef, undef, undef, x1, x19, x19, x21, x22, x23, undef, undef, undef, undef, undef, undef, undef, undef, undef, undef, undef, undef, undef, undef, undef, undef, undef, undef, undef, undef, undef, undef, undef, undef, undef, undef] ++ [undef, undef, undef, undef, undef, undef, undef, undef, undef, undef, undef, undef, undef, undef, undef, undef, undef, undef, undef, undef, undef, undef, undef, undef, undef, undef, undef, undef, undef, undef, undef, undef, undef, undef, undef, undef, undef, undef, undef, undef, undef, undef, undef, undef, undef, undef, undef, undef, undef, undef] ++ [undef, undef, undef, undef, undef, undef, undef, undef, undef, undef, undef, undef, undef, undef, undef, undef, undef, undef, undef, undef]).toArray, []⟩) (by kernel_rfl) ?_
    refine ls_pick_f (y := x23) (by kernel_rfl) (by rw [hb_3]; kernel_rfl) (by kernel_rfl) ?_
    refine ls_nil ?_
    refine then_normal ?_
    exact ⟨(fun i => ([x21, x22, x23]).getD i undef), x23, h_44, by kernel_rfl, HA_49, H⟩
  · refine ls_skip (d := some 21) (by kernel_rfl) (by rw [hb_3]; kernel_rfl) ?_
    refine ls_skip (d := some 22) (by kernel_rfl) (by rw [hb_3]; kernel_rfl) ?_
    refine ls_skip (d := some 23) (by kernel_rfl) (by rw [hb_3]; kernel_rfl) ?_
    refine ls_fr (b := ⟨([x0, x1, x2, x3, x4, undef, undef, x7, undef, undef, (.int .i64 0), undef, undef, undef, undef, undef, undef, undef, x1, x19, x19, undef, undef, undef, undef, undef, undef, undef, undef, undef, undef, undef, undef, undef, undef, undef, undef, undef, undef, undef, undef, undef, undef, undef, undef, undef, undef, undef, undef, undef] ++ [undef, undef, undef, undef, undef, undef, undef, undef, undef, undef, undef, undef, undef, undef, undef, undef, undef, undef, undef, undef, undef, undef, undef, undef, undef, undef, undef, undef, undef, undef, undef, undef, undef, undef, undef, undef, undef, undef, undef, undef, undef, undef, undef, undef, undef, undef, undef, undef, undef, undef] ++ [undef, undef, undef, undef, undef, undef, undef, undef, undef, undef, undef, undef, undef, undef, undef, undef, undef, undef, undef, undef]).toArray, []⟩) (by kernel_rfl) ?_
    refine ls_pick_t (x := (.bool true)) (by kernel_rfl) (by rw [hb_3]; kernel_rfl) (by kernel_rfl) ?_
    refine ls_nil ?_
    refine then_normal ?_
    exact ⟨(fun i => ([undef, undef, undef]).getD i undef), (.bool true), h, by kernel_rfl, HA, H⟩
  · rintro _ w_1 ⟨D, x24, h_1, rfl, HA_1, H⟩
    refine ls_move (x := x24) (by kernel_rfl) (by kernel_rfl) ?_
    refine ls_orh [(), (), (), ()] (fun K a w => ∃ (D_1 : Nat → Value) (x29 : Value) (h_2 : Heap), a = ⟨([x0, x1, x2, x3, x4, undef, undef, x7, undef, undef, (.int .i64 0), undef, undef, undef, undef, undef, undef, undef, x1, x19, x19, (D 0), (D 1), (D 2), x24, x24, (D_1 0), (D_1 1), (D_1 2), x29, undef, undef, undef, undef, undef, undef, undef, undef, undef, undef, undef, undef, undef, undef, undef, undef, undef, undef, undef, undef] ++ [undef, undef, undef, undef, undef, undef, undef, undef, undef, undef, undef, undef, undef, undef, undef, undef, undef, undef, undef, undef, undef, undef, undef, undef, undef, undef, undef, undef, undef, undef, undef, undef, undef, undef, undef, undef, undef, undef, undef, undef, undef, undef, undef, undef, undef, undef, undef, undef, undef, undef] ++ [undef, undef, undef, undef, undef, undef, undef, undef, undef, undef, undef, undef, undef, undef, undef, undef, undef, undef, undef, undef]).toArray, []⟩ ∧ At w0 w h_2 ∧ K x29 h_2) H (fun hb_2 H => ?_) (fun hb_2 H => ?_) ?_
    · refine ls_move (x := x3) (by rw [hb_2]; kernel_rfl) (by kernel_rfl) ?_
      refine ls_d (d := some 27) (by kernel_rfl) (by rw [hb_2]; kernel_rfl) HA_1 (d_call (by kernel_rfl) (by kernel_rfl) H) (fun x27 h_43 w_48 H HA_48 => ?_)
      refine ls_p (d := some 28) (by kernel_rfl) (by rw [hb_2]; kernel_rfl) (p_not (by kernel_rfl) H) (fun x28 H => ?_)
      refine ls_pick_f (y := x28) (by kernel_rfl) (by rw [hb_2]; kernel_rfl) (by kernel_rfl) ?_
      refine ls_nil ?_
      refine then_normal ?_
      exact ⟨(fun i => ([x3, x27, x28]).getD i undef), x28, h_43, by kernel_rfl, HA_48, H⟩
    · refine ls_skip (d := some 26) (by kernel_rfl) (by rw [hb_2]; kernel_rfl) ?_
      refine ls_skip (d := some 27) (by kernel_rfl) (by rw [hb_2]; kernel_rfl) ?_
      refine ls_skip (d := some 28) (by kernel_rfl) (by rw [hb_2]; kernel_rfl) ?_
      refine ls_pick_t (x := (.bool true)) (by kernel_rfl) (by rw [hb_2]; kernel_rfl) (by kernel_rfl) ?_
      refine ls_nil ?_
      refine then_normal ?_
      exact ⟨(fun i => ([undef, undef, undef]).getD i undef), (.bool true), h_1, by kernel_rfl, HA_1, H⟩
    · rintro _ w_2 ⟨D_1, x29, h_2, rfl, HA_2, H⟩
      refine ls_move (x := x29) (by kernel_rfl) (by kernel_rfl) ?_
      refine ls_orh [(), (), (), ()] (fun K a w => ∃ (D_2 : Nat → Value) (x34 : Value) (h_3 : Heap), a = ⟨([x0, x1, x2, x3, x4, undef, undef, x7, undef, undef, (.int .i64 0), undef, undef, undef, undef, undef, undef, undef, x1, x19, x19, (D 0), (D 1), (D 2), x24, x24, (D_1 0), (D_1 1), (D_1 2), x29, x29, (D_2 0), (D_2 1), (D_2 2), x34, undef, undef, undef, undef, undef, undef, undef, undef, undef, undef, undef, undef, undef, undef, undef] ++ [undef, undef, undef, undef, undef, undef, undef, undef, undef, undef, undef, undef, undef, undef, undef, undef, undef, undef, undef, undef, undef, undef, undef, undef, undef, undef, undef, undef, undef, undef, undef, undef, undef, undef, undef, undef, undef, undef, undef, undef, undef, undef, undef, undef, undef, undef, undef, undef, undef, undef] ++ [undef, undef, undef, undef, undef, undef, undef, undef, undef, undef, undef, undef, undef, undef, undef, undef, undef, undef, undef, undef]).toArray, []⟩ ∧ At w0 w h_3 ∧ K x34 h_3) H (fun hb_1 H => ?_) (fun hb_1 H => ?_) ?_
      · refine ls_move (x := x4) (by rw [hb_1]; kernel_rfl) (by kernel_rfl) ?_
        refine ls_d (d := some 32) (by kernel_rfl) (by rw [hb_1]; kernel_rfl) HA_2 (d_call (by kernel_rfl) (by kernel_rfl) H) (fun x32 h_42 w_47 H HA_47 => ?_)
        refine ls_p (d := some 33) (by kernel_rfl) (by rw [hb_1]; kernel_rfl) (p_not (by kernel_rfl) H) (fun x33 H => ?_)
        refine ls_pick_f (y := x33) (by kernel_rfl) (by rw [hb_1]; kernel_rfl) (by kernel_rfl) ?_
        refine ls_nil ?_
        refine then_normal ?_
        exact ⟨(fun i => ([x4, x32, x33]).getD i undef), x33, h_42, by kernel_rfl, HA_47, H⟩
      · refine ls_skip (d := some 31) (by kernel_rfl) (by rw [hb_1]; kernel_rfl) ?_
        refine ls_skip (d := some 32) (by kernel_rfl) (by rw [hb_1]; kernel_rfl) ?_
        refine ls_skip (d := some 33) (by kernel_rfl) (by rw [hb_1]; kernel_rfl) ?_
        refine ls_pick_t (x := (.bool true)) (by kernel_rfl) (by rw [hb_1]; kernel_rfl) (by kernel_rfl) ?_
        refine ls_nil ?_
        refine then_normal ?_
        exact ⟨(fun i => ([undef, undef, undef]).getD i undef), (.bool true), h_2, by kernel_rfl, HA_2, H⟩
      · rintro _ w_3 ⟨D_2, x34, h_3, rfl, HA_3, H⟩
        refine ls_nil ?_
        refine then_normal ?_
        refine fr_eq (b := ⟨([x0, x1, x2, x3, x4, undef, undef, x7, undef, undef, (.int .i64 0), undef, undef, undef, undef, undef, undef, undef, x1, x19, x19, (D 0), (D 1), (D 2), x24, x24, (D_1 0), (D_1 1), (D_1 2), x29, x29, (D_2 0), (D_2 1), (D_2 2), x34, undef, undef, undef, undef, undef, undef, undef, undef, undef, undef, undef, undef, undef, undef, undef] ++ [undef, undef, undef, undef, undef, undef, undef, undef, undef, undef, undef, undef, undef, undef, undef, undef, undef, undef, undef, undef, undef, undef, undef, undef, undef, undef, undef, undef, undef, undef, undef, undef, undef, undef, undef, undef, undef, undef, undef, undef, undef, undef, undef, undef, undef, undef, undef, undef, undef, undef] ++ [undef, undef, undef, undef, undef, undef, undef, undef, undef, undef, undef, undef, undef, undef, undef, undef, undef, undef, undef, undef]).toArray, []⟩) (by kernel_rfl) ?_
        refine wp_if rfl H (fun H => ?_) (fun H => ?_)
        · refine wp_seq ?_
          refine lwp_list ?_
          refine ls_assign (x := (.int .i64 0)) (by kernel_rfl) (by kernel_rfl) ?_
          refine ls_nil ?_
          refine then_normal ?_
          refine fr_eq (b := ⟨([x0, x1, x2, x3, x4, undef, undef, x7, undef, undef, (.int .i64 0), undef, undef, undef, undef, undef, undef, undef, x1, x19, x19, (D 0), (D 1), (D 2), x24, x24, (D_1 0), (D_1 1), (D_1 2), x29, x29, (D_2 0), (D_2 1), (D_2 2), x34, undef, undef, undef, undef, undef, undef, undef, undef, undef, undef, undef, undef, undef, undef, undef] ++ [undef, undef, undef, undef, undef, undef, undef, undef, undef, undef, undef, undef, undef, undef, undef, undef, undef, undef, undef, undef, undef, undef, undef, undef, undef, undef, undef, undef, undef, undef, undef, undef, undef, undef, undef, undef, undef, undef, undef, undef, undef, undef, undef, undef, undef, undef, undef, undef, undef, undef] ++ [undef, undef, undef, undef, undef, undef, undef, undef, undef, undef, undef, undef, undef, undef, undef, undef, undef, undef, undef, undef]).toArray, []⟩) (by kernel_rfl) ?_
          refine wp_ret ?_
          refine then_ret ?_
          exact end1 (Try.results23) (by kernel_rfl) (by kernel_rfl) HA_3 H _ (.inr rfl)
        · refine wp_skip ?_
          refine then_normal ?_
          refine fr_eq (b := ⟨([x0, x1, x2, x3, x4, undef, undef, x7, undef, undef, (.int .i64 0), undef, undef, undef, undef, undef, undef, undef, x1, x19, x19, (D 0), (D 1), (D 2), x24, x24, (D_1 0), (D_1 1), (D_1 2), x29, x29, (D_2 0), (D_2 1), (D_2 2), x34, undef, undef, undef, undef, undef, undef, undef, undef, undef, undef, undef, undef, undef, undef, undef] ++ [undef, undef, undef, undef, undef, undef, undef, undef, undef, undef, undef, undef, undef, undef, undef, undef, undef, undef, undef, undef, undef, undef, undef, undef, undef, undef, undef, undef, undef, undef, undef, undef, undef, undef, undef, undef, undef, undef, undef, undef, undef, undef, undef, undef, undef, undef, undef, undef, undef, undef] ++ [undef, undef, undef, undef, undef, undef, undef, undef, undef, undef, undef, undef, undef, undef, undef, undef, undef, undef, undef, undef]).toArray, []⟩) (by kernel_rfl) ?_
          refine wp_seq ?_
          refine wp_join (fun a w => ∃ (D_3 : Nat → Value) (x11 : Value) (h_4 : Heap), a = ⟨([x0, x1, x2, x3, x4, undef, undef, x7, undef, undef, (.int .i64 0), x11, undef, undef, undef, undef, undef, undef, x1, x19, x19, (D 0), (D 1), (D 2), x24, x24, (D_1 0), (D_1 1), (D_1 2), x29, x29, (D_2 0), (D_2 1), (D_2 2), x34, (D_3 0), (D_3 1), (D_3 2), (D_3 3), undef, undef, undef, undef, undef, undef, undef, undef, undef, undef, undef] ++ [undef, undef, undef, undef, undef, undef, undef, undef, undef, undef, undef, undef, undef, undef, undef, undef, undef, undef, undef, undef, undef, undef, undef, undef, undef, undef, undef, undef, undef, undef, undef, undef, undef, undef, undef, undef, undef, undef, undef, undef, undef, undef, undef, undef, undef, undef, undef, undef, undef, undef] ++ [undef, undef, undef, undef, undef, undef, undef, undef, undef, undef, undef, undef, undef, undef, undef, undef, undef, undef, undef, undef]).toArray, []⟩ ∧ At w0 w h_4 ∧ grid_Grid_Blit_j1 R x0 x1 x3 x4 x7 x11 h_4) ?_ ?_
          · obtain ⟨C_4, HC, H⟩ := H
            refine lwp_pl (Nat.testBit 60) (Nat.testBit 20) (Nat.testBit 2) [0, 0, 2, 7, 0, 31] (Nat.testBit 0) C_4 (.op 0 (.op 1 (.alt (.op 2 (.alt (.op 3 (.op 4 (.op 5 .done))) (.op 4 (.op 3 (.op 5 .done))))) (.op 4 (.op 2 (.op 3 (.op 5 .done))))))) (by kernel_rfl) (by kernel_rfl) (by kernel_rfl) HA_3 HC ?_
            intro w_35 HA_35
            refine lp_f (d := some 35) (by kernel_rfl) rfl (by kernel_rfl) (by kernel_rfl) (by kernel_rfl) (by kernel_rfl) (c_ldn Try.isAgg23 Try.sizeOf23 (by kernel_rfl) H) (fun x35 H => ?_)
            refine lp_al (x := x0) (d := some 36) (by kernel_rfl) rfl (by kernel_rfl) (by kernel_rfl) (al_move (by kernel_rfl)) ?_
            obtain ⟨Ha, Hb⟩ := H
            refine lp_alt ?_ ?_
            · have H := Ha
              clear Ha Hb
              refine lp_dc (d := some 37) (by kernel_rfl) rfl (by kernel_rfl) (by kernel_rfl) (by kernel_rfl) HA_35 (d_call (by kernel_rfl) (by kernel_rfl) H) (fun x37 h_31 w_36 H HA_36 => ?_)
              obtain ⟨Ha, Hb⟩ := H
              refine lp_alt ?_ ?_
              · have H := Ha
                clear Ha Hb
                refine lp_d (d := some 38) (by kernel_rfl) rfl (by kernel_rfl) (by kernel_rfl) (by kernel_rfl) HA_36 (d_call (by kernel_rfl) (by kernel_rfl) H) (fun x38 h_32 w_37 H HA_37 => ?_)
                refine lp_dc (d := some 11) (by kernel_rfl) rfl (by kernel_rfl) (by kernel_rfl) (by kernel_rfl) HA_37 (d_alloc Try.zeroValue23 H) (fun x11_1 h_33 w_38 H HA_38 => ?_)
                refine lp_d (d := none) (by kernel_rfl) rfl (by kernel_rfl) (by kernel_rfl) (by kernel_rfl) HA_38 (d_stn Try.sizeOf23 (by kernel_rfl) (by kernel_rfl) H) (fun _ h_34 w_39 H HA_39 => ?_)
                refine lp_nil ?_
                exact ⟨(fun i => ([x35, x0, x37, x38]).getD i undef), x11_1, h_34, by kernel_rfl, HA_39, H⟩
              · have H := Hb
                clear Ha Hb
                refine lp_dc (d := some 11) (by kernel_rfl) rfl (by kernel_rfl) (by kernel_rfl) (by kernel_rfl) HA_36 (d_alloc Try.zeroValue23 H) (fun x11_2 h_35 w_40 H HA_40 => ?_)
                refine lp_d (d := some 38) (by kernel_rfl) rfl (by kernel_rfl) (by kernel_rfl) (by kernel_rfl) HA_40 (d_call (by kernel_rfl) (by kernel_rfl) H) (fun x38_1 h_36 w_41 H HA_41 => ?_)
                refine lp_d (d := none) (by kernel_rfl) rfl (by kernel_rfl) (by kernel_rfl) (by kernel_rfl) HA_41 (d_stn Try.sizeOf23 (by kernel_rfl) (by kernel_rfl) H) (fun _ h_37 w_42 H HA_42 => ?_)
                refine lp_nil ?_
                exact ⟨(fun i => ([x35, x0, x37, x38_1]).getD i undef), x11_2, h_37, by kernel_rfl, HA_42, H⟩
            · have H := Hb
              clear Ha Hb
              refine lp_dc (d := some 11) (by kernel_rfl) rfl (by kernel_rfl) (by kernel_rfl) (by kernel_rfl) HA_35 (d_alloc Try.zeroValue23 H) (fun x11_3 h_38 w_43 H HA_43 => ?_)
              refine lp_dc (d := some 37) (by kernel_rfl) rfl (by kernel_rfl) (by kernel_rfl) (by kernel_rfl) HA_43 (d_call (by kernel_rfl) (by kernel_rfl) H) (fun x37_1 h_39 w_44 H HA_44 => ?_)
              refine lp_d (d := some 38) (by kernel_rfl) rfl (by kernel_rfl) (by kernel_rfl) (by kernel_rfl) HA_44 (d_call (by kernel_rfl) (by kernel_rfl) H) (fun x38_2 h_40 w_45 H HA_45 => ?_)
              refine lp_d (d := none) (by kernel_rfl) rfl (by kernel_rfl) (by kernel_rfl) (by kernel_rfl) HA_45 (d_stn Try.sizeOf23 (by kernel_rfl) (by kernel_rfl) H) (fun _ h_41 w_46 H HA_46 => ?_)
              refine lp_nil ?_
              exact ⟨(fun i => ([x35, x0, x37_1, x38_2]).getD i undef), x11_3, h_41, by kernel_rfl, HA_46, H⟩
          · rintro _ w_4 ⟨D_3, x11, h_4, rfl, HA_4, H⟩
            unfold grid_Grid_Blit_j1 at H
            refine then_normal ?_
            refine fr_eq (b := ⟨([x0, x1, x2, x3, x4, undef, undef, x7, undef, undef, (.int .i64 0), x11, undef, undef, undef, undef, undef, undef, x1, x19, x19, (D 0), (D 1), (D 2), x24, x24, (D_1 0), (D_1 1), (D_1 2), x29, x29, (D_2 0), (D_2 1), (D_2 2), x34, (D_3 0), (D_3 1), (D_3 2), (D_3 3), undef, undef, undef, undef, undef, undef, undef, undef, undef, undef, undef] ++ [undef, undef, undef, undef, undef, undef, undef, undef, undef, undef, undef, undef, undef, undef, undef, undef, undef, undef, undef, undef, undef, undef, undef, undef, undef, undef, undef, undef, undef, undef, undef, undef, undef, undef, undef, undef, undef, undef, undef, undef, undef, undef, undef, undef, undef, undef, undef, undef, undef, undef] ++ [undef, undef, undef, undef, undef, undef, undef, undef, undef, undef, undef, undef, undef, undef, undef, undef, undef, undef, undef, undef]).toArray, []⟩) (by kernel_rfl) ?_
            refine wp_seq ?_
            obtain ⟨C, HC, H⟩ := H
            refine lwp_mx (Nat.testBit 163840) (Nat.testBit 32768) (Nat.testBit 93917) [0, 1, 0, 7, 0, 16, 63, 0, 128, 0, 896, 0, 2048, 8064, 511, 16895, 65535, 131071] (Nat.testBit 290) C [0, 1, 2, 3, 4, 5, 6, 7, 8, 9, 10, 11, 12, 13, 14, 15, 16, 17] (by kernel_rfl) (by kernel_rfl) (by kernel_rfl) (by kernel_rfl) HA_4 HC ?_
            intro w_5 HA_5
            refine lm_p (d := some 39) (by kernel_rfl) rfl (by kernel_rfl) (by kernel_rfl) (p_off Try.underlying23 rfl (fun w => ⟨_, Try.sizeOf3 w⟩) rfl (by kernel_rfl) H) (fun x39 H => ?_)
            refine lm_b (d := some 40) (by kernel_rfl) rfl (by kernel_rfl) (by kernel_rfl) (by kernel_rfl) (by kernel_rfl) (y_ld Try.isAgg3 (by kernel_rfl) H) (fun x40 H => ?_)
            refine lm_al (x := x3) (d := some 41) (by kernel_rfl) rfl (by kernel_rfl) (by kernel_rfl) (al_move (by kernel_rfl)) ?_
            refine lm_p (d := some 42) (by kernel_rfl) rfl (by kernel_rfl) (by kernel_rfl) (p_add (by kernel_rfl) (by kernel_rfl) H) (fun x42 H => ?_)
            refine lm_p (d := some 43) (by kernel_rfl) rfl (by kernel_rfl) (by kernel_rfl) (p_off Try.underlying23 rfl (fun w => ⟨_, Try.sizeOf3 w⟩) rfl (by kernel_rfl) H) (fun x43 H => ?_)
            refine lm_b (d := some 44) (by kernel_rfl) rfl (by kernel_rfl) (by kernel_rfl) (by kernel_rfl) (by kernel_rfl) (y_ld Try.isAgg3 (by kernel_rfl) H) (fun x44 H => ?_)
            refine lm_fr (b := ⟨([x0, x1, x2, x3, x4, undef, undef, x7, undef, undef, (.int .i64 0), x11, undef, undef, undef, undef, undef, undef, x1, x19, x19, (D 0), (D 1), (D 2), x24, x24, (D_1 0), (D_1 1), (D_1 2), x29, x29, (D_2 0), (D_2 1), (D_2 2), x34, (D_3 0), (D_3 1), (D_3 2), (D_3 3), x39, x40, x3, x42, x43, x44, undef, undef, undef, undef, undef] ++ [undef, undef, undef, undef, undef, undef, undef, undef, undef, undef, undef, undef, undef, undef, undef, undef, undef, undef, undef, undef, undef, undef, undef, undef, undef, undef, undef, undef, undef, undef, undef, undef, undef, undef, undef, undef, undef, undef, undef, undef, undef, undef, undef, undef, undef, undef, undef, undef, undef, undef] ++ [undef, undef, undef, undef, undef, undef, undef, undef, undef, undef, undef, undef, undef, undef, undef, undef, undef, undef, undef, undef]).toArray, []⟩) (by kernel_rfl) ?_
            refine lm_p (d := some 45) (by kernel_rfl) rfl (by kernel_rfl) (by kernel_rfl) (p_sub (by kernel_rfl) (by kernel_rfl) H) (fun x45 H => ?_)
            refine lm_p (d := some 46) (by kernel_rfl) rfl (by kernel_rfl) (by kernel_rfl) (p_off Try.underlying23 rfl (fun w => ⟨_, Try.sizeOf3 w⟩) rfl (by kernel_rfl) H) (fun x46 H => ?_)
            refine lm_b (d := some 47) (by kernel_rfl) rfl (by kernel_rfl) (by kernel_rfl) (by kernel_rfl) (by kernel_rfl) (y_ld Try.isAgg3 (by kernel_rfl) H) (fun x47 H => ?_)
            refine lm_al (x := x4) (d := some 48) (by kernel_rfl) rfl (by kernel_rfl) (by kernel_rfl) (al_move (by kernel_rfl)) ?_
            refine lm_p (d := some 49) (by kernel_rfl) rfl (by kernel_rfl) (by kernel_rfl) (p_add (by kernel_rfl) (by kernel_rfl) H) (fun x49 H => ?_)
            refine lm_p (d := some 50) (by kernel_rfl) rfl (by kernel_rfl) (by kernel_rfl) (p_off Try.underlying23 rfl (fun w => ⟨_, Try.sizeOf3 w⟩) rfl (by kernel_rfl) H) (fun x50 H => ?_)
            refine lm_fr (b := ⟨([x0, x1, x2, x3, x4, undef, undef, x7, undef, undef, (.int .i64 0), x11, undef, undef, undef, undef, undef, undef, x1, x19, x19, (D 0), (D 1), (D 2), x24, x24, (D_1 0), (D_1 1), (D_1 2), x29, x29, (D_2 0), (D_2 1), (D_2 2), x34, (D_3 0), (D_3 1), (D_3 2), (D_3 3), x39, x40, x3, x42, x43, x44, x45, x46, x47, x4, x49] ++ [x50, undef, undef, undef, undef, undef, undef, undef, undef, undef, undef, undef, undef, undef, undef, undef, undef, undef, undef, undef, undef, undef, undef, undef, undef, undef, undef, undef, undef, undef, undef, undef, undef, undef, undef, undef, undef, undef, undef, undef, undef, undef, undef, undef, undef, undef, undef, undef, undef, undef] ++ [undef, undef, undef, undef, undef, undef, undef, undef, undef, undef, undef, undef, undef, undef, undef, undef, undef, undef, undef, undef]).toArray, []⟩) (by kernel_rfl) ?_
            refine lm_f (d := some 51) (by kernel_rfl) rfl (by kernel_rfl) (by kernel_rfl) (by kernel_rfl) (by kernel_rfl) (c_ld Try.isAgg3 (by kernel_rfl) H) (fun x51 H => ?_)
            refine lm_p (d := some 52) (by kernel_rfl) rfl (by kernel_rfl) (by kernel_rfl) (p_sub (by kernel_rfl) (by kernel_rfl) H) (fun x52 H => ?_)
            refine lm_p (d := some 53) (by kernel_rfl) rfl (by kernel_rfl) (by kernel_rfl) (p_off Try.underlying23 rfl (fun w => ⟨_, Try.sizeOf3 w⟩) rfl (by kernel_rfl) H) (fun x53 H => ?_)
            refine lm_dcs (d := none) (by kernel_rfl) rfl (by kernel_rfl) (by kernel_rfl) (by kernel_rfl) HA_5 (d_st Try.sizeOf3 (by kernel_rfl) (by kernel_rfl) H) (fun _ h_5 w_6 H HA_6 => ?_)
            refine lm_p (d := some 54) (by kernel_rfl) rfl (by kernel_rfl) (by kernel_rfl) (p_off Try.underlying23 rfl (fun w => ⟨_, Try.sizeOf3 w⟩) rfl (by kernel_rfl) H) (fun x54 H => ?_)
            refine lm_d (d := none) (by kernel_rfl) rfl (by kernel_rfl) (by kernel_rfl) (by kernel_rfl) HA_6 (d_st Try.sizeOf3 (by kernel_rfl) (by kernel_rfl) H) (fun _ h_6 w_7 H HA_7 => ?_)
            refine lm_nil ?_
            refine then_normal ?_
            refine fr_eq (b := ⟨([x0, x1, x2, x3, x4, undef, undef, x7, undef, undef, (.int .i64 0), x11, undef, undef, undef, undef, undef, undef, x1, x19, x19, (D 0), (D 1), (D 2), x24, x24, (D_1 0), (D_1 1), (D_1 2), x29, x29, (D_2 0), (D_2 1), (D_2 2), x34, (D_3 0), (D_3 1), (D_3 2), (D_3 3), x39, x40, x3, x42, x43, x44, x45, x46, x47, x4, x49] ++ [x50, x51, x52, x53, x54, undef, undef, undef, undef, undef, undef, undef, undef, undef, undef, undef, undef, undef, undef, undef, undef, undef, undef, undef, undef, undef, undef, undef, undef, undef, undef, undef, undef, undef, undef, undef, undef, undef, undef, undef, undef, undef, undef, undef, undef, undef, undef, undef, undef, undef] ++ [undef, undef, undef, undef, undef, undef, undef, undef, undef, undef, undef, undef, undef, undef, undef, undef, undef, undef, undef, undef]).toArray, []⟩) (by kernel_rfl) ?_
            refine wp_seq ?_
            refine wp_join (fun a w => ∃ (D_4 : Nat → Value) (x12 : Value) (h_7 : Heap), a = ⟨([x0, x1, x2, x3, x4, undef, undef, x7, undef, undef, (.int .i64 0), x11, x12, undef, undef, undef, undef, undef, x1, x19, x19, (D 0), (D 1), (D 2), x24, x24, (D_1 0), (D_1 1), (D_1 2), x29, x29, (D_2 0), (D_2 1), (D_2 2), x34, (D_3 0), (D_3 1), (D_3 2), (D_3 3), x39, x40, x3, x42, x43, x44, x45, x46, x47, x4, x49] ++ [x50, x51, x52, x53, x54, (D_4 0), (D_4 1), (D_4 2), (D_4 3), undef, undef, undef, undef, undef, undef, undef, undef, undef, undef, undef, undef, undef, undef, undef, undef, undef, undef, undef, undef, undef, undef, undef, undef, undef, undef, undef, undef, undef, undef, undef, undef, undef, undef, undef, undef, undef, undef, undef, undef, undef] ++ [undef, undef, undef, undef, undef, undef, undef, undef, undef, undef, undef, undef, undef, undef, undef, undef, undef, undef, undef, undef]).toArray, []⟩ ∧ At w0 w h_7 ∧ grid_Grid_Blit_j2 R x0 x1 x3 x4 x7 x11 x12 h_7) ?_ ?_
            · obtain ⟨C_3, HC, H⟩ := H
              refine lwp_pl (Nat.testBit 60) (Nat.testBit 20) (Nat.testBit 2) [0, 0, 2, 7, 0, 31] (Nat.testBit 0) C_3 (.op 0 (.op 1 (.alt (.op 2 (.alt (.op 3 (.op 4 (.op 5 .done))) (.op 4 (.op 3 (.op 5 .done))))) (.op 4 (.op 2 (.op 3 (.op 5 .done))))))) (by kernel_rfl) (by kernel_rfl) (by kernel_rfl) HA_7 HC ?_
              intro w_23 HA_23
              refine lp_f (d := some 55) (by kernel_rfl) rfl (by kernel_rfl) (by kernel_rfl) (by kernel_rfl) (by kernel_rfl) (c_ldn Try.isAgg23 Try.sizeOf23 (by kernel_rfl) H) (fun x55 H => ?_)
              refine lp_al (x := x1) (d := some 56) (by kernel_rfl) rfl (by kernel_rfl) (by kernel_rfl) (al_move (by kernel_rfl)) ?_
              obtain ⟨Ha, Hb⟩ := H
              refine lp_alt ?_ ?_
              · have H := Ha
                clear Ha Hb
                refine lp_dc (d := some 57) (by kernel_rfl) rfl (by kernel_rfl) (by kernel_rfl) (by kernel_rfl) HA_23 (d_call (by kernel_rfl) (by kernel_rfl) H) (fun x57 h_20 w_24 H HA_24 => ?_)
                obtain ⟨Ha, Hb⟩ := H
                refine lp_alt ?_ ?_
                · have H := Ha
                  clear Ha Hb
                  refine lp_d (d := some 58) (by kernel_rfl) rfl (by kernel_rfl) (by kernel_rfl) (by kernel_rfl) HA_24 (d_call (by kernel_rfl) (by kernel_rfl) H) (fun x58 h_21 w_25 H HA_25 => ?_)
                  refine lp_dc (d := some 12) (by kernel_rfl) rfl (by kernel_rfl) (by kernel_rfl) (by kernel_rfl) HA_25 (d_alloc Try.zeroValue23 H) (fun x12_1 h_22 w_26 H HA_26 => ?_)
                  refine lp_d (d := none) (by kernel_rfl) rfl (by kernel_rfl) (by kernel_rfl) (by kernel_rfl) HA_26 (d_stn Try.sizeOf23 (by kernel_rfl) (by kernel_rfl) H) (fun _ h_23 w_27 H HA_27 => ?_)
                  refine lp_nil ?_
                  exact ⟨(fun i => ([x55, x1, x57, x58]).getD i undef), x12_1, h_23, by kernel_rfl, HA_27, H⟩
                · have H := Hb
                  clear Ha Hb
                  refine lp_dc (d := some 12) (by kernel_rfl) rfl (by kernel_rfl) (by kernel_rfl) (by kernel_rfl) HA_24 (d_alloc Try.zeroValue23 H) (fun x12_2 h_24 w_28 H HA_28 => ?_)
                  refine lp_d (d := some 58) (by kernel_rfl) rfl (by kernel_rfl) (by kernel_rfl) (by kernel_rfl) HA_28 (d_call (by kernel_rfl) (by kernel_rfl) H) (fun x58_1 h_25 w_29 H HA_29 => ?_)
                  refine lp_d (d := none) (by kernel_rfl) rfl (by kernel_rfl) (by kernel_rfl) (by kernel_rfl) HA_29 (d_stn Try.sizeOf23 (by kernel_rfl) (by kernel_rfl) H) (fun _ h_26 w_30 H HA_30 => ?_)
                  refine lp_nil ?_
                  exact ⟨(fun i => ([x55, x1, x57, x58_1]).getD i undef), x12_2, h_26, by kernel_rfl, HA_30, H⟩
              · have H := Hb
                clear Ha Hb
                refine lp_dc (d := some 12) (by kernel_rfl) rfl (by kernel_rfl) (by kernel_rfl) (by kernel_rfl) HA_23 (d_alloc Try.zeroValue23 H) (fun x12_3 h_27 w_31 H HA_31 => ?_)
                refine lp_dc (d := some 57) (by kernel_rfl) rfl (by kernel_rfl) (by kernel_rfl) (by kernel_rfl) HA_31 (d_call (by kernel_rfl) (by kernel_rfl) H) (fun x57_1 h_28 w_32 H HA_32 => ?_)
                refine lp_d (d := some 58) (by kernel_rfl) rfl (by kernel_rfl) (by kernel_rfl) (by kernel_rfl) HA_32 (d_call (by kernel_rfl) (by kernel_rfl) H) (fun x58_2 h_29 w_33 H HA_33 => ?_)
                refine lp_d (d := none) (by kernel_rfl) rfl (by kernel_rfl) (by kernel_rfl) (by kernel_rfl) HA_33 (d_stn Try.sizeOf23 (by kernel_rfl) (by kernel_rfl) H) (fun _ h_30 w_34 H HA_34 => ?_)
                refine lp_nil ?_
                exact ⟨(fun i => ([x55, x1, x57_1, x58_2]).getD i undef), x12_3, h_30, by kernel_rfl, HA_34, H⟩
            · rintro _ w_8 ⟨D_4, x12, h_7, rfl, HA_8, H⟩
              unfold grid_Grid_Blit_j2 at H
              refine then_normal ?_
              refine fr_eq (b := ⟨([x0, x1, x2, x3, x4, undef, undef, x7, undef, undef, (.int .i64 0), x11, x12, undef, undef, undef, undef, undef, x1, x19, x19, (D 0), (D 1), (D 2), x24, x24, (D_1 0), (D_1 1), (D_1 2), x29, x29, (D_2 0), (D_2 1), (D_2 2), x34, (D_3 0), (D_3 1), (D_3 2), (D_3 3), x39, x40, x3, x42, x43, x44, x45, x46, x47, x4, x49] ++ [x50, x51, x52, x53, x54, (D_4 0), (D_4 1), (D_4 2), (D_4 3), undef, undef, undef, undef, undef, undef, undef, undef, undef, undef, undef, undef, undef, undef, undef, undef, undef, undef, undef, undef, undef, undef, undef, undef, undef, undef, undef, undef, undef, undef, undef, undef, undef, undef, undef, undef, undef, undef, undef, undef, undef] ++ [undef, undef, undef, undef, undef, undef, undef, undef, undef, undef, undef, undef, undef, undef, undef, undef, undef, undef, undef, undef]).toArray, []⟩) (by kernel_rfl) ?_
              refine wp_seq ?_
              refine wp_seq ?_
              refine lwp_list ?_
              refine ls_y (d := some 59) (by kernel_rfl) (by kernel_rfl) HA_8 (y_ldn Try.isAgg23 Try.sizeOf23 (by kernel_rfl) H) (fun x59 H => ?_)
              refine ls_d (d := some 60) (by kernel_rfl) (by kernel_rfl) HA_8 (d_call (by kernel_rfl) (by kernel_rfl) H) (fun x60 h_8 w_9 H HA_9 => ?_)
              refine ls_move (x := x60) (by kernel_rfl) (by kernel_rfl) ?_
              refine ls_orh [(), (), ()] (fun K a w => ∃ (D_5 : Nat → Value) (x64 : Value) (h_9 : Heap), a = ⟨([x0, x1, x2, x3, x4, undef, undef, x7, undef, undef, (.int .i64 0), x11, x12, undef, undef, undef, undef, undef, x1, x19, x19, (D 0), (D 1), (D 2), x24, x24, (D_1 0), (D_1 1), (D_1 2), x29, x29, (D_2 0), (D_2 1), (D_2 2), x34, (D_3 0), (D_3 1), (D_3 2), (D_3 3), x39, x40, x3, x42, x43, x44, x45, x46, x47, x4, x49] ++ [x50, x51, x52, x53, x54, (D_4 0), (D_4 1), (D_4 2), (D_4 3), x59, x60, x60, (D_5 0), (D_5 1), x64, undef, undef, undef, undef, undef, undef, undef, undef, undef, undef, undef, undef, undef, undef, undef, undef, undef, undef, undef, undef, undef, undef, undef, undef, undef, undef, undef, undef, undef, undef, undef, undef, undef, undef, undef] ++ [undef, undef, undef, undef, undef, undef, undef, undef, undef, undef, undef, undef, undef, undef, undef, undef, undef, undef, undef, undef]).toArray, []⟩ ∧ At w0 w h_9 ∧ K x64 h_9) H (fun hb H => ?_) (fun hb H => ?_) ?_
              · refine ls_y (d := some 62) (by kernel_rfl) (by rw [hb]; kernel_rfl) HA_9 (y_ldn Try.isAgg23 Try.sizeOf23 (by kernel_rfl) H) (fun x62 H => ?_)
                refine ls_d (d := some 63) (by kernel_rfl) (by rw [hb]; kernel_rfl) HA_9 (d_call (by kernel_rfl) (by kernel_rfl) H) (fun x63 h_19 w_22 H HA_22 => ?_)
                refine ls_pick_f (y := x63) (by kernel_rfl) (by rw [hb]; kernel_rfl) (by kernel_rfl) ?_
                refine ls_nil ?_
                refine then_normal ?_
                exact ⟨(fun i => ([x62, x63]).getD i undef), x63, h_19, by kernel_rfl, HA_22, H⟩
              · refine ls_skip (d := some 62) (by kernel_rfl) (by rw [hb]; kernel_rfl) ?_
                refine ls_skip (d := some 63) (by kernel_rfl) (by rw [hb]; kernel_rfl) ?_
                refine ls_pick_t (x := (.bool true)) (by kernel_rfl) (by rw [hb]; kernel_rfl) (by kernel_rfl) ?_
                refine ls_nil ?_
                refine then_normal ?_
                exact ⟨(fun i => ([undef, undef]).getD i undef), (.bool true), h_8, by kernel_rfl, HA_9, H⟩
              · rintro _ w_10 ⟨D_5, x64, h_9, rfl, HA_10, H⟩
                refine ls_nil ?_
                refine then_normal ?_
                refine fr_eq (b := ⟨([x0, x1, x2, x3, x4, undef, undef, x7, undef, undef, (.int .i64 0), x11, x12, undef, undef, undef, undef, undef, x1, x19, x19, (D 0), (D 1), (D 2), x24, x24, (D_1 0), (D_1 1), (D_1 2), x29, x29, (D_2 0), (D_2 1), (D_2 2), x34, (D_3 0), (D_3 1), (D_3 2), (D_3 3), x39, x40, x3, x42, x43, x44, x45, x46, x47, x4, x49] ++ [x50, x51, x52, x53, x54, (D_4 0), (D_4 1), (D_4 2), (D_4 3), x59, x60, x60, (D_5 0), (D_5 1), x64, undef, undef, undef, undef, undef, undef, undef, undef, undef, undef, undef, undef, undef, undef, undef, undef, undef, undef, undef, undef, undef, undef, undef, undef, undef, undef, undef, undef, undef, undef, undef, undef, undef, undef, undef] ++ [undef, undef, undef, undef, undef, undef, undef, undef, undef, undef, undef, undef, undef, undef, undef, undef, undef, undef, undef, undef]).toArray, []⟩) (by kernel_rfl) ?_
                refine wp_if rfl H (fun H => ?_) (fun H => ?_)
                · refine wp_seq ?_
                  refine lwp_list ?_
                  refine ls_assign (x := (.int .i64 0)) (by kernel_rfl) (by kernel_rfl) ?_
                  refine ls_nil ?_
                  refine then_normal ?_
                  refine fr_eq (b := ⟨([x0, x1, x2, x3, x4, undef, undef, x7, undef, undef, (.int .i64 0), x11, x12, undef, undef, undef, undef, undef, x1, x19, x19, (D 0), (D 1), (D 2), x24, x24, (D_1 0), (D_1 1), (D_1 2), x29, x29, (D_2 0), (D_2 1), (D_2 2), x34, (D_3 0), (D_3 1), (D_3 2), (D_3 3), x39, x40, x3, x42, x43, x44, x45, x46, x47, x4, x49] ++ [x50, x51, x52, x53, x54, (D_4 0), (D_4 1), (D_4 2), (D_4 3), x59, x60, x60, (D_5 0), (D_5 1), x64, undef, undef, undef, undef, undef, undef, undef, undef, undef, undef, undef, undef, undef, undef, undef, undef, undef, undef, undef, undef, undef, undef, undef, undef, undef, undef, undef, undef, undef, undef, undef, undef, undef, undef, undef] ++ [undef, undef, undef, undef, undef, undef, undef, undef, undef, undef, undef, undef, undef, undef, undef, undef, undef, undef, undef, undef]).toArray, []⟩) (by kernel_rfl) ?_
                  refine wp_ret ?_
                  refine then_ret ?_
                  exact end1 (Try.results23) (by kernel_rfl) (by kernel_rfl) HA_10 H _ (.inr rfl)
                · refine wp_skip ?_
                  refine then_normal ?_
                  refine fr_eq (b := ⟨([x0, x1, x2, x3, x4, undef, undef, x7, undef, undef, (.int .i64 0), x11, x12, undef, undef, undef, undef, undef, x1, x19, x19, (D 0), (D 1), (D 2), x24, x24, (D_1 0), (D_1 1), (D_1 2), x29, x29, (D_2 0), (D_2 1), (D_2 2), x34, (D_3 0), (D_3 1), (D_3 2), (D_3 3), x39, x40, x3, x42, x43, x44, x45, x46, x47, x4, x49] ++ [x50, x51, x52, x53, x54, (D_4 0), (D_4 1), (D_4 2), (D_4 3), x59, x60, x60, (D_5 0), (D_5 1), x64, undef, undef, undef, undef, undef, undef, undef, undef, undef, undef, undef, undef, undef, undef, undef, undef, undef, undef, undef, undef, undef, undef, undef, undef, undef, undef, undef, undef, undef, undef, undef, undef, undef, undef, undef] ++ [undef, undef, undef, undef, undef, undef, undef, undef, undef, undef, undef, undef, undef, undef, undef, undef, undef, undef, undef, undef]).toArray, []⟩) (by kernel_rfl) ?_
                  refine wp_seq ?_
                  refine lwp_list ?_
                  refine ls_assign (x := (.slice none 0 0)) (by kernel_rfl) (by kernel_rfl) ?_
                  refine ls_nil ?_
                  refine then_normal ?_
                  refine fr_eq (b := ⟨([x0, x1, x2, x3, x4, undef, undef, x7, undef, undef, (.int .i64 0), x11, x12, (.slice none 0 0), undef, undef, undef, undef, x1, x19, x19, (D 0), (D 1), (D 2), x24, x24, (D_1 0), (D_1 1), (D_1 2), x29, x29, (D_2 0), (D_2 1), (D_2 2), x34, (D_3 0), (D_3 1), (D_3 2), (D_3 3), x39, x40, x3, x42, x43, x44, x45, x46, x47, x4, x49] ++ [x50, x51, x52, x53, x54, (D_4 0), (D_4 1), (D_4 2), (D_4 3), x59, x60, x60, (D_5 0), (D_5 1), x64, undef, undef, undef, undef, undef, undef, undef, undef, undef, undef, undef, undef, undef, undef, undef, undef, undef, undef, undef, undef, undef, undef, undef, undef, undef, undef, undef, undef, undef, undef, undef, undef, undef, undef, undef] ++ [undef, undef, undef, undef, undef, undef, undef, undef, undef, undef, undef, undef, undef, undef, undef, undef, undef, undef, undef, undef]).toArray, []⟩) (by kernel_rfl) ?_
                  refine wp_seq ?_
                  refine wp_seq ?_
                  refine lwp_list ?_
                  refine ls_p (d := some 65) (by kernel_rfl) (by kernel_rfl) (p_off Try.underlying23 rfl (fun w => ⟨_, Try.sizeOf3 w⟩) rfl (by kernel_rfl) H) (fun x65 H => ?_)
                  refine ls_y (d := some 66) (by kernel_rfl) (by kernel_rfl) HA_10 (y_ld Try.isAgg3 (by kernel_rfl) H) (fun x66 H => ?_)
                  refine ls_move (x := (.int .i64 0)) (by kernel_rfl) (by kernel_rfl) ?_
                  refine ls_nil ?_
                  refine then_normal ?_
                  refine fr_eq (b := ⟨([x0, x1, x2, x3, x4, undef, undef, x7, undef, undef, (.int .i64 0), x11, x12, (.slice none 0 0), undef, undef, undef, undef, x1, x19, x19, (D 0), (D 1), (D 2), x24, x24, (D_1 0), (D_1 1), (D_1 2), x29, x29, (D_2 0), (D_2 1), (D_2 2), x34, (D_3 0), (D_3 1), (D_3 2), (D_3 3), x39, x40, x3, x42, x43, x44, x45, x46, x47, x4, x49] ++ [x50, x51, x52, x53, x54, (D_4 0), (D_4 1), (D_4 2), (D_4 3), x59, x60, x60, (D_5 0), (D_5 1), x64, x65, x66, (.int .i64 0), undef, undef, undef, undef, undef, undef, undef, undef, undef, undef, undef, undef, undef, undef, undef, undef, undef, undef, undef, undef, undef, undef, undef, undef, undef, undef, undef, undef, undef, undef, undef, undef] ++ [undef, undef, undef, undef, undef, undef, undef, undef, undef, undef, undef, undef, undef, undef, undef, undef, undef, undef, undef, undef]).toArray, []⟩) (by kernel_rfl) ?_
                  refine wp_block ?_
                  obtain ⟨I, m, H0, HB⟩ := H
                  refine wp_loop (fun a w => ∃ (D_6 : Nat → Value) (x13 x67 : Value) (h_10 : Heap), a = ⟨([x0, x1, x2, x3, x4, undef, undef, x7, undef, undef, (.int .i64 0), x11, x12, x13, (D_6 0), (D_6 1), undef, undef, x1, x19, x19, (D 0), (D 1), (D 2), x24, x24, (D_1 0), (D_1 1), (D_1 2), x29, x29, (D_2 0), (D_2 1), (D_2 2), x34, (D_3 0), (D_3 1), (D_3 2), (D_3 3), x39, x40, x3, x42, x43, x44, x45, x46, x47, x4, x49] ++ [x50, x51, x52, x53, x54, (D_4 0), (D_4 1), (D_4 2), (D_4 3), x59, x60, x60, (D_5 0), (D_5 1), x64, x65, x66, x67, (D_6 2), (D_6 3), (D_6 4), (D_6 5), (D_6 6), (D_6 7), (D_6 8), (D_6 9), (D_6 10), (D_6 11), (D_6 12), (D_6 13), (D_6 14), (D_6 15), (D_6 16), (D_6 17), (D_6 18), (D_6 19), (D_6 20), (D_6 21), (D_6 22), (D_6 23), (D_6 24), (D_6 25), (D_6 26), (D_6 27), (D_6 28), (D_6 29), (D_6 30), (D_6 31), (D_6 32), undef] ++ [undef, undef, undef, undef, undef, undef, undef, undef, undef, undef, undef, undef, undef, undef, undef, undef, undef, undef, undef, undef]).toArray, []⟩ ∧ At w0 w h_10 ∧ I (x13, x67) h_10) (fun a w => m ((a.tmps.getD 13 undef), (a.tmps.getD 67 undef)) w.heap) ?_ ?_
                  · exact ⟨(fun i => ([undef, undef, undef, undef, undef, undef, undef, undef, undef, undef, undef, undef, undef, undef, undef, undef, undef, undef, undef, undef, undef, undef, undef, undef, undef, undef, undef, undef, undef, undef, undef, undef, undef]).getD i undef), (.slice none 0 0), (.int .i64 0), h_9, by kernel_rfl, HA_10, H0⟩
                  · rintro _ w_11 ⟨D_6, x13, x67, h_10, rfl, HA_11, HI⟩
                    have H : grid_Grid_Blit_l3 R x0 x1 x3 x4 x7 x12 x66 (fun x13' x67' h' => I (x13', x67') h' ∧ m (x13', x67') h' < m (x13, x67) h_10) x13 x67 h_10 := HB (x13, x67) h_10 HI
                    clear HB H0 HI
                    unfold grid_Grid_Blit_l3 at H
                    refine wp_seq ?_
                    refine lwp_list ?_
                    refine ls_p (d := some 68) (by kernel_rfl) (by kernel_rfl) (p_sLt (by kernel_rfl) (by kernel_rfl) H) (fun x68 H => ?_)
                    refine ls_nil ?_
                    refine then_normal ?_
                    refine fr_eq (b := ⟨([x0, x1, x2, x3, x4, undef, undef, x7, undef, undef, (.int .i64 0), x11, x12, x13, (D_6 0), (D_6 1), undef, undef, x1, x19, x19, (D 0), (D 1), (D 2), x24, x24, (D_1 0), (D_1 1), (D_1 2), x29, x29, (D_2 0), (D_2 1), (D_2 2), x34, (D_3 0), (D_3 1), (D_3 2), (D_3 3), x39, x40, x3, x42, x43, x44, x45, x46, x47, x4, x49] ++ [x50, x51, x52, x53, x54, (D_4 0), (D_4 1), (D_4 2), (D_4 3), x59, x60, x60, (D_5 0), (D_5 1), x64, x65, x66, x67, x68, (D_6 3), (D_6 4), (D_6 5), (D_6 6), (D_6 7), (D_6 8), (D_6 9), (D_6 10), (D_6 11), (D_6 12), (D_6 13), (D_6 14), (D_6 15), (D_6 16), (D_6 17), (D_6 18), (D_6 19), (D_6 20), (D_6 21), (D_6 22), (D_6 23), (D_6 24), (D_6 25), (D_6 26), (D_6 27), (D_6 28), (D_6 29), (D_6 30), (D_6 31), (D_6 32), undef] ++ [undef, undef, undef, undef, undef, undef, undef, undef, undef, undef, undef, undef, undef, undef, undef, undef, undef, undef, undef, undef]).toArray, []⟩) (by kernel_rfl) ?_
                    refine wp_seq ?_
                    refine wp_if rfl H (fun H => ?_) (fun H => ?_)
                    · refine wp_skip ?_
                      refine then_normal ?_
                      refine fr_eq (b := ⟨([x0, x1, x2, x3, x4, undef, undef, x7, undef, undef, (.int .i64 0), x11, x12, x13, (D_6 0), (D_6 1), undef, undef, x1, x19, x19, (D 0), (D 1), (D 2), x24, x24, (D_1 0), (D_1 1), (D_1 2), x29, x29, (D_2 0), (D_2 1), (D_2 2), x34, (D_3 0), (D_3 1), (D_3 2), (D_3 3), x39, x40, x3, x42, x43, x44, x45, x46, x47, x4, x49] ++ [x50, x51, x52, x53, x54, (D_4 0), (D_4 1), (D_4 2), (D_4 3), x59, x60, x60, (D_5 0), (D_5 1), x64, x65, x66, x67, x68, (D_6 3), (D_6 4), (D_6 5), (D_6 6), (D_6 7), (D_6 8), (D_6 9), (D_6 10), (D_6 11), (D_6 12), (D_6 13), (D_6 14), (D_6 15), (D_6 16), (D_6 17), (D_6 18), (D_6 19), (D_6 20), (D_6 21), (D_6 22), (D_6 23), (D_6 24), (D_6 25), (D_6 26), (D_6 27), (D_6 28), (D_6 29), (D_6 30), (D_6 31), (D_6 32), undef] ++ [undef, undef, undef, undef, undef, undef, undef, undef, undef, undef, undef, undef, undef, undef, undef, undef, undef, undef, undef, undef]).toArray, []⟩) (by kernel_rfl) ?_
                      refine wp_seq ?_
                      refine wp_block ?_
                      refine wp_seq ?_
                      refine lwp_list ?_
                      refine ls_move (x := x67) (by kernel_rfl) (by kernel_rfl) ?_
                      refine ls_assign (x := x67) (by kernel_rfl) (by kernel_rfl) ?_
                      refine ls_nil ?_
                      refine then_normal ?_
                      refine fr_eq (b := ⟨([x0, x1, x2, x3, x4, undef, undef, x7, undef, undef, (.int .i64 0), x11, x12, x13, x67, (D_6 1), undef, undef, x1, x19, x19, (D 0), (D 1), (D 2), x24, x24, (D_1 0), (D_1 1), (D_1 2), x29, x29, (D_2 0), (D_2 1), (D_2 2), x34, (D_3 0), (D_3 1), (D_3 2), (D_3 3), x39, x40, x3, x42, x43, x44, x45, x46, x47, x4, x49] ++ [x50, x51, x52, x53, x54, (D_4 0), (D_4 1), (D_4 2), (D_4 3), x59, x60, x60, (D_5 0), (D_5 1), x64, x65, x66, x67, x68, x67, (D_6 4), (D_6 5), (D_6 6), (D_6 7), (D_6 8), (D_6 9), (D_6 10), (D_6 11), (D_6 12), (D_6 13), (D_6 14), (D_6 15), (D_6 16), (D_6 17), (D_6 18), (D_6 19), (D_6 20), (D_6 21), (D_6 22), (D_6 23), (D_6 24), (D_6 25), (D_6 26), (D_6 27), (D_6 28), (D_6 29), (D_6 30), (D_6 31), (D_6 32), undef] ++ [undef, undef, undef, undef, undef, undef, undef, undef, undef, undef, undef, undef, undef, undef, undef, undef, undef, undef, undef, undef]).toArray, []⟩) (by kernel_rfl) ?_
                      refine wp_seq ?_
                      refine lwp_list ?_
                      refine ls_p (d := some 70) (by kernel_rfl) (by kernel_rfl) (p_off Try.underlying23 rfl (fun w => ⟨_, Try.sizeOf3 w⟩) rfl (by kernel_rfl) H) (fun x70 H => ?_)
                      refine ls_y (d := some 71) (by kernel_rfl) (by kernel_rfl) HA_11 (y_ld Try.isAgg3 (by kernel_rfl) H) (fun x71 H => ?_)
                      refine ls_move (x := x3) (by kernel_rfl) (by kernel_rfl) ?_
                      refine ls_p (d := some 73) (by kernel_rfl) (by kernel_rfl) (p_sub (by kernel_rfl) (by kernel_rfl) H) (fun x73 H => ?_)
                      refine ls_p (d := some 74) (by kernel_rfl) (by kernel_rfl) (p_off Try.underlying23 rfl (fun w => ⟨_, Try.sizeOf3 w⟩) rfl (by kernel_rfl) H) (fun x74 H => ?_)
                      refine ls_y (d := some 75) (by kernel_rfl) (by kernel_rfl) HA_11 (y_ld Try.isAgg3 (by kernel_rfl) H) (fun x75 H => ?_)
                      refine ls_fr (b := ⟨([x0, x1, x2, x3, x4, undef, undef, x7, undef, undef, (.int .i64 0), x11, x12, x13, x67, (D_6 1), undef, undef, x1, x19, x19, (D 0), (D 1), (D 2), x24, x24, (D_1 0), (D_1 1), (D_1 2), x29, x29, (D_2 0), (D_2 1), (D_2 2), x34, (D_3 0), (D_3 1), (D_3 2), (D_3 3), x39, x40, x3, x42, x43, x44, x45, x46, x47, x4, x49] ++ [x50, x51, x52, x53, x54, (D_4 0), (D_4 1), (D_4 2), (D_4 3), x59, x60, x60, (D_5 0), (D_5 1), x64, x65, x66, x67, x68, x67, x70, x71, x3, x73, x74, x75, (D_6 10), (D_6 11), (D_6 12), (D_6 13), (D_6 14), (D_6 15), (D_6 16), (D_6 17), (D_6 18), (D_6 19), (D_6 20), (D_6 21), (D_6 22), (D_6 23), (D_6 24), (D_6 25), (D_6 26), (D_6 27), (D_6 28), (D_6 29), (D_6 30), (D_6 31), (D_6 32), undef] ++ [undef, undef, undef, undef, undef, undef, undef, undef, undef, undef, undef, undef, undef, undef, undef, undef, undef, undef, undef, undef]).toArray, []⟩) (by kernel_rfl) ?_
                      refine ls_p (d := some 76) (by kernel_rfl) (by kernel_rfl) (p_add (by kernel_rfl) (by kernel_rfl) H) (fun x76 H => ?_)
                      refine ls_assign (x := x76) (by kernel_rfl) (by kernel_rfl) ?_
                      refine ls_nil ?_
                      refine then_normal ?_
                      refine fr_eq (b := ⟨([x0, x1, x2, x3, x4, undef, undef, x7, undef, undef, (.int .i64 0), x11, x12, x13, x67, x76, undef, undef, x1, x19, x19, (D 0), (D 1), (D 2), x24, x24, (D_1 0), (D_1 1), (D_1 2), x29, x29, (D_2 0), (D_2 1), (D_2 2), x34, (D_3 0), (D_3 1), (D_3 2), (D_3 3), x39, x40, x3, x42, x43, x44, x45, x46, x47, x4, x49] ++ [x50, x51, x52, x53, x54, (D_4 0), (D_4 1), (D_4 2), (D_4 3), x59, x60, x60, (D_5 0), (D_5 1), x64, x65, x66, x67, x68, x67, x70, x71, x3, x73, x74, x75, x76, (D_6 11), (D_6 12), (D_6 13), (D_6 14), (D_6 15), (D_6 16), (D_6 17), (D_6 18), (D_6 19), (D_6 20), (D_6 21), (D_6 22), (D_6 23), (D_6 24), (D_6 25), (D_6 26), (D_6 27), (D_6 28), (D_6 29), (D_6 30), (D_6 31), (D_6 32), undef] ++ [undef, undef, undef, undef, undef, undef, undef, undef, undef, undef, undef, undef, undef, undef, undef, undef, undef, undef, undef, undef]).toArray, []⟩) (by kernel_rfl) ?_
                      obtain ⟨C_1, HC, H⟩ := H
                      refine lwp_mx (Nat.testBit 1837056) (Nat.testBit 2048) (Nat.testBit 2324343) [0, 0, 0, 4, 0, 28, 0, 64, 252, 0, 1020, 2046, 0, 0, 0, 16384, 57344, 131070, 262142, 524286, 1048575, 2097151] (Nat.testBit 136) C_1 [0, 1, 2, 3, 4, 5, 6, 7, 8, 9, 10, 11, 12, 13, 14, 15, 16, 17, 18, 19, 20, 21] (by kernel_rfl) (by kernel_rfl) (by kernel_rfl) (by kernel_rfl) HA_11 HC ?_
                      intro w_12 HA_12
                      refine lm_al (x := x13) (d := some 77) (by kernel_rfl) rfl (by kernel_rfl) (by kernel_rfl) (al_move (by kernel_rfl)) ?_
                      refine lm_al (x := x0) (d := some 78) (by kernel_rfl) rfl (by kernel_rfl) (by kernel_rfl) (al_move (by kernel_rfl)) ?_
                      refine lm_p (d := some 79) (by kernel_rfl) rfl (by kernel_rfl) (by kernel_rfl) (p_off Try.underlying23 rfl (fun w => ⟨_, Try.sizeOf3 w⟩) rfl (by kernel_rfl) H) (fun x79 H => ?_)
                      refine lm_b (d := some 80) (by kernel_rfl) rfl (by kernel_rfl) (by kernel_rfl) (by kernel_rfl) (by kernel_rfl) (y_ld Try.isAgg3 (by kernel_rfl) H) (fun x80 H => ?_)
                      refine lm_al (x := x4) (d := some 81) (by kernel_rfl) rfl (by kernel_rfl) (by kernel_rfl) (al_move (by kernel_rfl)) ?_
                      refine lm_p (d := some 82) (by kernel_rfl) rfl (by kernel_rfl) (by kernel_rfl) (p_sub (by kernel_rfl) (by kernel_rfl) H) (fun x82 H => ?_)
                      refine lm_fr (b := ⟨([x0, x1, x2, x3, x4, undef, undef, x7, undef, undef, (.int .i64 0), x11, x12, x13, x67, x76, undef, undef, x1, x19, x19, (D 0), (D 1), (D 2), x24, x24, (D_1 0), (D_1 1), (D_1 2), x29, x29, (D_2 0), (D_2 1), (D_2 2), x34, (D_3 0), (D_3 1), (D_3 2), (D_3 3), x39, x40, x3, x42, x43, x44, x45, x46, x47, x4, x49] ++ [x50, x51, x52, x53, x54, (D_4 0), (D_4 1), (D_4 2), (D_4 3), x59, x60, x60, (D_5 0), (D_5 1), x64, x65, x66, x67, x68, x67, x70, x71, x3, x73, x74, x75, x76, x13, x0, x79, x80, x4, x82, (D_6 17), (D_6 18), (D_6 19), (D_6 20), (D_6 21), (D_6 22), (D_6 23), (D_6 24), (D_6 25), (D_6 26), (D_6 27), (D_6 28), (D_6 29), (D_6 30), (D_6 31), (D_6 32), undef] ++ [undef, undef, undef, undef, undef, undef, undef, undef, undef, undef, undef, undef, undef, undef, undef, undef, undef, undef, undef, undef]).toArray, []⟩) (by kernel_rfl) ?_
                      refine lm_p (d := some 83) (by kernel_rfl) rfl (by kernel_rfl) (by kernel_rfl) (p_off Try.underlying23 rfl (fun w => ⟨_, Try.sizeOf3 w⟩) rfl (by kernel_rfl) H) (fun x83 H => ?_)
                      refine lm_b (d := some 84) (by kernel_rfl) rfl (by kernel_rfl) (by kernel_rfl) (by kernel_rfl) (by kernel_rfl) (y_ld Try.isAgg3 (by kernel_rfl) H) (fun x84 H => ?_)
                      refine lm_p (d := some 85) (by kernel_rfl) rfl (by kernel_rfl) (by kernel_rfl) (p_add (by kernel_rfl) (by kernel_rfl) H) (fun x85 H => ?_)
                      refine lm_al (x := x67) (d := some 86) (by kernel_rfl) rfl (by kernel_rfl) (by kernel_rfl) (al_move (by kernel_rfl)) ?_
                      refine lm_p (d := some 87) (by kernel_rfl) rfl (by kernel_rfl) (by kernel_rfl) (p_add (by kernel_rfl) (by kernel_rfl) H) (fun x87 H => ?_)
                      refine lm_dc (d := some 88) (by kernel_rfl) rfl (by kernel_rfl) (by kernel_rfl) (by kernel_rfl) HA_12 (d_call (by kernel_rfl) (by kernel_rfl) H) (fun x88 h_11 w_13 H HA_13 => ?_)
                      refine lm_fr (b := ⟨([x0, x1, x2, x3, x4, undef, undef, x7, undef, undef, (.int .i64 0), x11, x12, x13, x67, x76, undef, undef, x1, x19, x19, (D 0), (D 1), (D 2), x24, x24, (D_1 0), (D_1 1), (D_1 2), x29, x29, (D_2 0), (D_2 1), (D_2 2), x34, (D_3 0), (D_3 1), (D_3 2), (D_3 3), x39, x40, x3, x42, x43, x44, x45, x46, x47, x4, x49] ++ [x50, x51, x52, x53, x54, (D_4 0), (D_4 1), (D_4 2), (D_4 3), x59, x60, x60, (D_5 0), (D_5 1), x64, x65, x66, x67, x68, x67, x70, x71, x3, x73, x74, x75, x76, x13, x0, x79, x80, x4, x82, x83, x84, x85, x67, x87, x88, (D_6 23), (D_6 24), (D_6 25), (D_6 26), (D_6 27), (D_6 28), (D_6 29), (D_6 30), (D_6 31), (D_6 32), undef] ++ [undef, undef, undef, undef, undef, undef, undef, undef, undef, undef, undef, undef, undef, undef, undef, undef, undef, undef, undef, undef]).toArray, []⟩) (by kernel_rfl) ?_
                      refine lm_al (x := x76) (d := some 89) (by kernel_rfl) rfl (by kernel_rfl) (by kernel_rfl) (al_move (by kernel_rfl)) ?_
                      refine lm_al (x := x76) (d := some 90) (by kernel_rfl) rfl (by kernel_rfl) (by kernel_rfl) (al_move (by kernel_rfl)) ?_
                      refine lm_p (d := some 91) (by kernel_rfl) rfl (by kernel_rfl) (by kernel_rfl) (p_off Try.underlying23 rfl (fun w => ⟨_, Try.sizeOf3 w⟩) rfl (by kernel_rfl) H) (fun x91 H => ?_)
                      refine lm_f (d := some 92) (by kernel_rfl) rfl (by kernel_rfl) (by kernel_rfl) (by kernel_rfl) (by kernel_rfl) (c_ld Try.isAgg3 (by kernel_rfl) H) (fun x92 H => ?_)
                      refine lm_p (d := some 93) (by kernel_rfl) rfl (by kernel_rfl) (by kernel_rfl) (p_add (by kernel_rfl) (by kernel_rfl) H) (fun x93 H => ?_)
                      refine lm_p (d := some 94) (by kernel_rfl) rfl (by kernel_rfl) (by kernel_rfl) (p_sl Try.underlying35 Try.sizeOf27 (by kernel_rfl) (by kernel_rfl) (by kernel_rfl) H) (fun x94 H => ?_)
                      refine lm_fr (b := ⟨([x0, x1, x2, x3, x4, undef, undef, x7, undef, undef, (.int .i64 0), x11, x12, x13, x67, x76, undef, undef, x1, x19, x19, (D 0), (D 1), (D 2), x24, x24, (D_1 0), (D_1 1), (D_1 2), x29, x29, (D_2 0), (D_2 1), (D_2 2), x34, (D_3 0), (D_3 1), (D_3 2), (D_3 3), x39, x40, x3, x42, x43, x44, x45, x46, x47, x4, x49] ++ [x50, x51, x52, x53, x54, (D_4 0), (D_4 1), (D_4 2), (D_4 3), x59, x60, x60, (D_5 0), (D_5 1), x64, x65, x66, x67, x68, x67, x70, x71, x3, x73, x74, x75, x76, x13, x0, x79, x80, x4, x82, x83, x84, x85, x67, x87, x88, x76, x76, x91, x92, x93, x94, (D_6 29), (D_6 30), (D_6 31), (D_6 32), undef] ++ [undef, undef, undef, undef, undef, undef, undef, undef, undef, undef, undef, undef, undef, undef, undef, undef, undef, undef, undef, undef]).toArray, []⟩) (by kernel_rfl) ?_
                      refine lm_d (d := some 95) (by kernel_rfl) rfl (by kernel_rfl) (by kernel_rfl) (by kernel_rfl) HA_13 (d_call (by kernel_rfl) (by kernel_rfl) H) (fun x95 h_12 w_14 H HA_14 => ?_)
                      refine lm_d (d := some 96) (by kernel_rfl) rfl (by kernel_rfl) (by kernel_rfl) (by kernel_rfl) HA_14 (d_slit (zc := #[.slice none 0 0]) Try.underlying75 Try.sizeOf35 (by decide) (.inr ⟨by decide, _, Try.zeroValue35, (by kernel_rfl)⟩) (by kernel_rfl) (by kernel_rfl) H) (fun x96 h_13 w_15 H HA_15 => ?_)
                      refine lm_d (d := some 97) (by kernel_rfl) rfl (by kernel_rfl) (by kernel_rfl) (by kernel_rfl) HA_15 (d_app (z := #[.slice none 0 0]) Try.underlying75 Try.underlying75 (.inl ⟨_, rfl⟩) Try.typeInfo35 (by kernel_rfl) Try.sizeOf35 Try.zeroValue35 (by kernel_rfl) (by kernel_rfl) (by kernel_rfl) H) (fun x97 h_14 w_16 H HA_16 => ?_)
                      refine lm_al (x := x97) (d := some 13) (by kernel_rfl) rfl (by kernel_rfl) (by kernel_rfl) (al_assign (by kernel_rfl)) ?_
                      refine lm_nil ?_
                      refine block_normal ?_
                      refine then_normal ?_
                      refine fr_eq (b := ⟨([x0, x1, x2, x3, x4, undef, undef, x7, undef, undef, (.int .i64 0), x11, x12, x97, x67, x76, undef, undef, x1, x19, x19, (D 0), (D 1), (D 2), x24, x24, (D_1 0), (D_1 1), (D_1 2), x29, x29, (D_2 0), (D_2 1), (D_2 2), x34, (D_3 0), (D_3 1), (D_3 2), (D_3 3), x39, x40, x3, x42, x43, x44, x45, x46, x47, x4, x49] ++ [x50, x51, x52, x53, x54, (D_4 0), (D_4 1), (D_4 2), (D_4 3), x59, x60, x60, (D_5 0), (D_5 1), x64, x65, x66, x67, x68, x67, x70, x71, x3, x73, x74, x75, x76, x13, x0, x79, x80, x4, x82, x83, x84, x85, x67, x87, x88, x76, x76, x91, x92, x93, x94, x95, x96, x97, (D_6 32), undef] ++ [undef, undef, undef, undef, undef, undef, undef, undef, undef, undef, undef, undef, undef, undef, undef, undef, undef, undef, undef, undef]).toArray, []⟩) (by kernel_rfl) ?_
                      refine lwp_list ?_
                      refine ls_p (d := some 98) (by kernel_rfl) (by kernel_rfl) (p_add (by kernel_rfl) (by kernel_rfl) H) (fun x98 H => ?_)
                      refine ls_move (x := x98) (by kernel_rfl) (by kernel_rfl) ?_
                      refine ls_nil ?_
                      exact ⟨⟨(fun i => ([x67, x76, x68, x67, x70, x71, x3, x73, x74, x75, x76, x13, x0, x79, x80, x4, x82, x83, x84, x85, x67, x87, x88, x76, x76, x91, x92, x93, x94, x95, x96, x97, x98]).getD i undef), x97, x98, h_14, by kernel_rfl, HA_16, H.1⟩, loop_lt HA_16.heap HA_11.heap (by kernel_rfl) (by kernel_rfl) H.2⟩
                    · refine wp_exit ?_
                      refine then_exit ?_
                      refine then_exit ?_
                      refine block_exit ?_
                      refine then_normal ?_
                      refine fr_eq (b := ⟨([x0, x1, x2, x3, x4, undef, undef, x7, undef, undef, (.int .i64 0), x11, x12, x13, (D_6 0), (D_6 1), undef, undef, x1, x19, x19, (D 0), (D 1), (D 2), x24, x24, (D_1 0), (D_1 1), (D_1 2), x29, x29, (D_2 0), (D_2 1), (D_2 2), x34, (D_3 0), (D_3 1), (D_3 2), (D_3 3), x39, x40, x3, x42, x43, x44, x45, x46, x47, x4, x49] ++ [x50, x51, x52, x53, x54, (D_4 0), (D_4 1), (D_4 2), (D_4 3), x59, x60, x60, (D_5 0), (D_5 1), x64, x65, x66, x67, x68, (D_6 3), (D_6 4), (D_6 5), (D_6 6), (D_6 7), (D_6 8), (D_6 9), (D_6 10), (D_6 11), (D_6 12), (D_6 13), (D_6 14), (D_6 15), (D_6 16), (D_6 17), (D_6 18), (D_6 19), (D_6 20), (D_6 21), (D_6 22), (D_6 23), (D_6 24), (D_6 25), (D_6 26), (D_6 27), (D_6 28), (D_6 29), (D_6 30), (D_6 31), (D_6 32), undef] ++ [undef, undef, undef, undef, undef, undef, undef, undef, undef, undef, undef, undef, undef, undef, undef, undef, undef, undef, undef, undef]).toArray, []⟩) (by kernel_rfl) ?_
                      refine wp_seq ?_
                      refine wp_seq ?_
                      refine lwp_list ?_
                      refine ls_move (x := x13) (by kernel_rfl) (by kernel_rfl) ?_
                      refine ls_p (d := some 100) (by kernel_rfl) (by kernel_rfl) (p_len Try.underlying75 (by kernel_rfl) H) (fun x100 H => ?_)
                      refine ls_move (x := (.int .i64 0)) (by kernel_rfl) (by kernel_rfl) ?_
                      refine ls_nil ?_
                      refine then_normal ?_
                      refine fr_eq (b := ⟨([x0, x1, x2, x3, x4, undef, undef, x7, undef, undef, (.int .i64 0), x11, x12, x13, (D_6 0), (D_6 1), undef, undef, x1, x19, x19, (D 0), (D 1), (D 2), x24, x24, (D_1 0), (D_1 1), (D_1 2), x29, x29, (D_2 0), (D_2 1), (D_2 2), x34, (D_3 0), (D_3 1), (D_3 2), (D_3 3), x39, x40, x3, x42, x43, x44, x45, x46, x47, x4, x49] ++ [x50, x51, x52, x53, x54, (D_4 0), (D_4 1), (D_4 2), (D_4 3), x59, x60, x60, (D_5 0), (D_5 1), x64, x65, x66, x67, x68, (D_6 3), (D_6 4), (D_6 5), (D_6 6), (D_6 7), (D_6 8), (D_6 9), (D_6 10), (D_6 11), (D_6 12), (D_6 13), (D_6 14), (D_6 15), (D_6 16), (D_6 17), (D_6 18), (D_6 19), (D_6 20), (D_6 21), (D_6 22), (D_6 23), (D_6 24), (D_6 25), (D_6 26), (D_6 27), (D_6 28), (D_6 29), (D_6 30), (D_6 31), (D_6 32), x13] ++ [x100, (.int .i64 0), undef, undef, undef, undef, undef, undef, undef, undef, undef, undef, undef, undef, undef, undef, undef, undef, undef, undef]).toArray, []⟩) (by kernel_rfl) ?_
                      refine wp_block ?_
                      obtain ⟨I_1, m_1, H0, HB⟩ := H
                      refine wp_loop (fun a w => ∃ (D_7 : Nat → Value) (x101 : Value) (h_15 : Heap), a = ⟨([x0, x1, x2, x3, x4, undef, undef, x7, undef, undef, (.int .i64 0), x11, x12, x13, (D_6 0), (D_6 1), (D_7 0), (D_7 1), x1, x19, x19, (D 0), (D 1), (D 2), x24, x24, (D_1 0), (D_1 1), (D_1 2), x29, x29, (D_2 0), (D_2 1), (D_2 2), x34, (D_3 0), (D_3 1), (D_3 2), (D_3 3), x39, x40, x3, x42, x43, x44, x45, x46, x47, x4, x49] ++ [x50, x51, x52, x53, x54, (D_4 0), (D_4 1), (D_4 2), (D_4 3), x59, x60, x60, (D_5 0), (D_5 1), x64, x65, x66, x67, x68, (D_6 3), (D_6 4), (D_6 5), (D_6 6), (D_6 7), (D_6 8), (D_6 9), (D_6 10), (D_6 11), (D_6 12), (D_6 13), (D_6 14), (D_6 15), (D_6 16), (D_6 17), (D_6 18), (D_6 19), (D_6 20), (D_6 21), (D_6 22), (D_6 23), (D_6 24), (D_6 25), (D_6 26), (D_6 27), (D_6 28), (D_6 29), (D_6 30), (D_6 31), (D_6 32), x13] ++ [x100, x101, (D_7 2), (D_7 3), (D_7 4), (D_7 5), (D_7 6), (D_7 7), (D_7 8), (D_7 9), (D_7 10), (D_7 11), (D_7 12), (D_7 13), (D_7 14), (D_7 15), (D_7 16), (D_7 17), undef, undef]).toArray, []⟩ ∧ At w0 w h_15 ∧ I_1 x101 h_15) (fun a w => m_1 (a.tmps.getD 101 undef) w.heap) ?_ ?_
                      · exact ⟨(fun i => ([undef, undef, undef, undef, undef, undef, undef, undef, undef, undef, undef, undef, undef, undef, undef, undef, undef, undef]).getD i undef), (.int .i64 0), h_10, by kernel_rfl, HA_11, H0⟩
                      · rintro _ w_17 ⟨D_7, x101, h_15, rfl, HA_17, HI⟩
                        have H : grid_Grid_Blit_l4 R x1 x12 x13 x100 (fun x101' h' => I_1 x101' h' ∧ m_1 x101' h' < m_1 x101 h_15) x101 h_15 := HB x101 h_15 HI
                        clear HB H0 HI
                        unfold grid_Grid_Blit_l4 at H
                        refine wp_seq ?_
                        refine lwp_list ?_
                        refine ls_p (d := some 102) (by kernel_rfl) (by kernel_rfl) (p_sLt (by kernel_rfl) (by kernel_rfl) H) (fun x102 H => ?_)
                        refine ls_nil ?_
                        refine then_normal ?_
                        refine fr_eq (b := ⟨([x0, x1, x2, x3, x4, undef, undef, x7, undef, undef, (.int .i64 0), x11, x12, x13, (D_6 0), (D_6 1), (D_7 0), (D_7 1), x1, x19, x19, (D 0), (D 1), (D 2), x24, x24, (D_1 0), (D_1 1), (D_1 2), x29, x29, (D_2 0), (D_2 1), (D_2 2), x34, (D_3 0), (D_3 1), (D_3 2), (D_3 3), x39, x40, x3, x42, x43, x44, x45, x46, x47, x4, x49] ++ [x50, x51, x52, x53, x54, (D_4 0), (D_4 1), (D_4 2), (D_4 3), x59, x60, x60, (D_5 0), (D_5 1), x64, x65, x66, x67, x68, (D_6 3), (D_6 4), (D_6 5), (D_6 6), (D_6 7), (D_6 8), (D_6 9), (D_6 10), (D_6 11), (D_6 12), (D_6 13), (D_6 14), (D_6 15), (D_6 16), (D_6 17), (D_6 18), (D_6 19), (D_6 20), (D_6 21), (D_6 22), (D_6 23), (D_6 24), (D_6 25), (D_6 26), (D_6 27), (D_6 28), (D_6 29), (D_6 30), (D_6 31), (D_6 32), x13] ++ [x100, x101, x102, (D_7 3), (D_7 4), (D_7 5), (D_7 6), (D_7 7), (D_7 8), (D_7 9), (D_7 10), (D_7 11), (D_7 12), (D_7 13), (D_7 14), (D_7 15), (D_7 16), (D_7 17), undef, undef]).toArray, []⟩) (by kernel_rfl) ?_
                        refine wp_seq ?_
                        refine wp_if rfl H (fun H => ?_) (fun H => ?_)
                        · refine wp_skip ?_
                          refine then_normal ?_
                          refine fr_eq (b := ⟨([x0, x1, x2, x3, x4, undef, undef, x7, undef, undef, (.int .i64 0), x11, x12, x13, (D_6 0), (D_6 1), (D_7 0), (D_7 1), x1, x19, x19, (D 0), (D 1), (D 2), x24, x24, (D_1 0), (D_1 1), (D_1 2), x29, x29, (D_2 0), (D_2 1), (D_2 2), x34, (D_3 0), (D_3 1), (D_3 2), (D_3 3), x39, x40, x3, x42, x43, x44, x45, x46, x47, x4, x49] ++ [x50, x51, x52, x53, x54, (D_4 0), (D_4 1), (D_4 2), (D_4 3), x59, x60, x60, (D_5 0), (D_5 1), x64, x65, x66, x67, x68, (D_6 3), (D_6 4), (D_6 5), (D_6 6), (D_6 7), (D_6 8), (D_6 9), (D_6 10), (D_6 11), (D_6 12), (D_6 13), (D_6 14), (D_6 15), (D_6 16), (D_6 17), (D_6 18), (D_6 19), (D_6 20), (D_6 21), (D_6 22), (D_6 23), (D_6 24), (D_6 25), (D_6 26), (D_6 27), (D_6 28), (D_6 29), (D_6 30), (D_6 31), (D_6 32), x13] ++ [x100, x101, x102, (D_7 3), (D_7 4), (D_7 5), (D_7 6), (D_7 7), (D_7 8), (D_7 9), (D_7 10), (D_7 11), (D_7 12), (D_7 13), (D_7 14), (D_7 15), (D_7 16), (D_7 17), undef, undef]).toArray, []⟩) (by kernel_rfl) ?_
                          refine wp_seq ?_
                          refine wp_block ?_
                          refine wp_seq ?_
                          refine lwp_list ?_
                          refine ls_move (x := x101) (by kernel_rfl) (by kernel_rfl) ?_
                          refine ls_p (d := some 104) (by kernel_rfl) (by kernel_rfl) (p_ixs Try.underlying75 Try.sizeOf35 (by kernel_rfl) (by kernel_rfl) H) (fun x104 H => ?_)
                          refine ls_y (d := some 105) (by kernel_rfl) (by kernel_rfl) HA_17 (y_ld Try.isAgg35 (by kernel_rfl) H) (fun x105 H => ?_)
                          refine ls_assign (x := x101) (by kernel_rfl) (by kernel_rfl) ?_
                          refine ls_assign (x := x105) (by kernel_rfl) (by kernel_rfl) ?_
                          refine ls_nil ?_
                          refine then_normal ?_
                          refine fr_eq (b := ⟨([x0, x1, x2, x3, x4, undef, undef, x7, undef, undef, (.int .i64 0), x11, x12, x13, (D_6 0), (D_6 1), x101, x105, x1, x19, x19, (D 0), (D 1), (D 2), x24, x24, (D_1 0), (D_1 1), (D_1 2), x29, x29, (D_2 0), (D_2 1), (D_2 2), x34, (D_3 0), (D_3 1), (D_3 2), (D_3 3), x39, x40, x3, x42, x43, x44, x45, x46, x47, x4, x49] ++ [x50, x51, x52, x53, x54, (D_4 0), (D_4 1), (D_4 2), (D_4 3), x59, x60, x60, (D_5 0), (D_5 1), x64, x65, x66, x67, x68, (D_6 3), (D_6 4), (D_6 5), (D_6 6), (D_6 7), (D_6 8), (D_6 9), (D_6 10), (D_6 11), (D_6 12), (D_6 13), (D_6 14), (D_6 15), (D_6 16), (D_6 17), (D_6 18), (D_6 19), (D_6 20), (D_6 21), (D_6 22), (D_6 23), (D_6 24), (D_6 25), (D_6 26), (D_6 27), (D_6 28), (D_6 29), (D_6 30), (D_6 31), (D_6 32), x13] ++ [x100, x101, x102, x101, x104, x105, (D_7 6), (D_7 7), (D_7 8), (D_7 9), (D_7 10), (D_7 11), (D_7 12), (D_7 13), (D_7 14), (D_7 15), (D_7 16), (D_7 17), undef, undef]).toArray, []⟩) (by kernel_rfl) ?_
                          obtain ⟨C_2, HC, H⟩ := H
                          refine lwp_mx (Nat.testBit 1056) (Nat.testBit 32) (Nat.testBit 859) [0, 0, 2, 0, 14, 31, 0, 64, 255, 0, 1023] (Nat.testBit 4) C_2 [0, 1, 2, 3, 4, 5, 6, 7, 8, 9, 10] (by kernel_rfl) (by kernel_rfl) (by kernel_rfl) (by kernel_rfl) HA_17 HC ?_
                          intro w_18 HA_18
                          refine lm_al (x := x1) (d := some 106) (by kernel_rfl) rfl (by kernel_rfl) (by kernel_rfl) (al_move (by kernel_rfl)) ?_
                          refine lm_p (d := some 107) (by kernel_rfl) rfl (by kernel_rfl) (by kernel_rfl) (p_off Try.underlying23 rfl (fun w => ⟨_, Try.sizeOf3 w⟩) rfl (by kernel_rfl) H) (fun x107 H => ?_)
                          refine lm_b (d := some 108) (by kernel_rfl) rfl (by kernel_rfl) (by kernel_rfl) (by kernel_rfl) (by kernel_rfl) (y_ld Try.isAgg3 (by kernel_rfl) H) (fun x108 H => ?_)
                          refine lm_al (x := x101) (d := some 109) (by kernel_rfl) rfl (by kernel_rfl) (by kernel_rfl) (al_move (by kernel_rfl)) ?_
                          refine lm_p (d := some 110) (by kernel_rfl) rfl (by kernel_rfl) (by kernel_rfl) (p_add (by kernel_rfl) (by kernel_rfl) H) (fun x110 H => ?_)
                          refine lm_dc (d := some 111) (by kernel_rfl) rfl (by kernel_rfl) (by kernel_rfl) (by kernel_rfl) HA_18 (d_call (by kernel_rfl) (by kernel_rfl) H) (fun x111 h_16 w_19 H HA_19 => ?_)
                          refine lm_fr (b := ⟨([x0, x1, x2, x3, x4, undef, undef, x7, undef, undef, (.int .i64 0), x11, x12, x13, (D_6 0), (D_6 1), x101, x105, x1, x19, x19, (D 0), (D 1), (D 2), x24, x24, (D_1 0), (D_1 1), (D_1 2), x29, x29, (D_2 0), (D_2 1), (D_2 2), x34, (D_3 0), (D_3 1), (D_3 2), (D_3 3), x39, x40, x3, x42, x43, x44, x45, x46, x47, x4, x49] ++ [x50, x51, x52, x53, x54, (D_4 0), (D_4 1), (D_4 2), (D_4 3), x59, x60, x60, (D_5 0), (D_5 1), x64, x65, x66, x67, x68, (D_6 3), (D_6 4), (D_6 5), (D_6 6), (D_6 7), (D_6 8), (D_6 9), (D_6 10), (D_6 11), (D_6 12), (D_6 13), (D_6 14), (D_6 15), (D_6 16), (D_6 17), (D_6 18), (D_6 19), (D_6 20), (D_6 21), (D_6 22), (D_6 23), (D_6 24), (D_6 25), (D_6 26), (D_6 27), (D_6 28), (D_6 29), (D_6 30), (D_6 31), (D_6 32), x13] ++ [x100, x101, x102, x101, x104, x105, x1, x107, x108, x101, x110, x111, (D_7 12), (D_7 13), (D_7 14), (D_7 15), (D_7 16), (D_7 17), undef, undef]).toArray, []⟩) (by kernel_rfl) ?_
                          refine lm_p (d := some 112) (by kernel_rfl) rfl (by kernel_rfl) (by kernel_rfl) (p_off Try.underlying23 rfl (fun w => ⟨_, Try.sizeOf3 w⟩) rfl (by kernel_rfl) H) (fun x112 H => ?_)
                          refine lm_f (d := some 113) (by kernel_rfl) rfl (by kernel_rfl) (by kernel_rfl) (by kernel_rfl) (by kernel_rfl) (c_ld Try.isAgg3 (by kernel_rfl) H) (fun x113 H => ?_)
                          refine lm_p (d := some 114) (by kernel_rfl) rfl (by kernel_rfl) (by kernel_rfl) (p_sl Try.underlying35 Try.sizeOf27 (by kernel_rfl) (by kernel_rfl) (by kernel_rfl) H) (fun x114 H => ?_)
                          refine lm_al (x := x105) (d := some 115) (by kernel_rfl) rfl (by kernel_rfl) (by kernel_rfl) (al_move (by kernel_rfl)) ?_
                          refine lm_d (d := some 116) (by kernel_rfl) rfl (by kernel_rfl) (by kernel_rfl) (by kernel_rfl) HA_19 (d_copy Try.underlying35 Try.sizeOf27 (by kernel_rfl) (by kernel_rfl) H) (fun x116 h_17 w_20 H HA_20 => ?_)
                          refine lm_nil ?_
                          refine block_normal ?_
                          refine then_normal ?_
                          refine fr_eq (b := ⟨([x0, x1, x2, x3, x4, undef, undef, x7, undef, undef, (.int .i64 0), x11, x12, x13, (D_6 0), (D_6 1), x101, x105, x1, x19, x19, (D 0), (D 1), (D 2), x24, x24, (D_1 0), (D_1 1), (D_1 2), x29, x29, (D_2 0), (D_2 1), (D_2 2), x34, (D_3 0), (D_3 1), (D_3 2), (D_3 3), x39, x40, x3, x42, x43, x44, x45, x46, x47, x4, x49] ++ [x50, x51, x52, x53, x54, (D_4 0), (D_4 1), (D_4 2), (D_4 3), x59, x60, x60, (D_5 0), (D_5 1), x64, x65, x66, x67, x68, (D_6 3), (D_6 4), (D_6 5), (D_6 6), (D_6 7), (D_6 8), (D_6 9), (D_6 10), (D_6 11), (D_6 12), (D_6 13), (D_6 14), (D_6 15), (D_6 16), (D_6 17), (D_6 18), (D_6 19), (D_6 20), (D_6 21), (D_6 22), (D_6 23), (D_6 24), (D_6 25), (D_6 26), (D_6 27), (D_6 28), (D_6 29), (D_6 30), (D_6 31), (D_6 32), x13] ++ [x100, x101, x102, x101, x104, x105, x1, x107, x108, x101, x110, x111, x112, x113, x114, x105, x116, (D_7 17), undef, undef]).toArray, []⟩) (by kernel_rfl) ?_
                          refine lwp_list ?_
                          refine ls_p (d := some 117) (by kernel_rfl) (by kernel_rfl) (p_add (by kernel_rfl) (by kernel_rfl) H) (fun x117 H => ?_)
                          refine ls_move (x := x117) (by kernel_rfl) (by kernel_rfl) ?_
                          refine ls_nil ?_
                          exact ⟨⟨(fun i => ([x101, x105, x102, x101, x104, x105, x1, x107, x108, x101, x110, x111, x112, x113, x114, x105, x116, x117]).getD i undef), x117, h_17, by kernel_rfl, HA_20, H.1⟩, loop_lt HA_20.heap HA_17.heap (by kernel_rfl) (by kernel_rfl) H.2⟩
                        · refine wp_exit ?_
                          refine then_exit ?_
                          refine then_exit ?_
                          refine block_exit ?_
                          refine then_normal ?_
                          refine fr_eq (b := ⟨([x0, x1, x2, x3, x4, undef, undef, x7, undef, undef, (.int .i64 0), x11, x12, x13, (D_6 0), (D_6 1), (D_7 0), (D_7 1), x1, x19, x19, (D 0), (D 1), (D 2), x24, x24, (D_1 0), (D_1 1), (D_1 2), x29, x29, (D_2 0), (D_2 1), (D_2 2), x34, (D_3 0), (D_3 1), (D_3 2), (D_3 3), x39, x40, x3, x42, x43, x44, x45, x46, x47, x4, x49] ++ [x50, x51, x52, x53, x54, (D_4 0), (D_4 1), (D_4 2), (D_4 3), x59, x60, x60, (D_5 0), (D_5 1), x64, x65, x66, x67, x68, (D_6 3), (D_6 4), (D_6 5), (D_6 6), (D_6 7), (D_6 8), (D_6 9), (D_6 10), (D_6 11), (D_6 12), (D_6 13), (D_6 14), (D_6 15), (D_6 16), (D_6 17), (D_6 18), (D_6 19), (D_6 20), (D_6 21), (D_6 22), (D_6 23), (D_6 24), (D_6 25), (D_6 26), (D_6 27), (D_6 28), (D_6 29), (D_6 30), (D_6 31), (D_6 32), x13] ++ [x100, x101, x102, (D_7 3), (D_7 4), (D_7 5), (D_7 6), (D_7 7), (D_7 8), (D_7 9), (D_7 10), (D_7 11), (D_7 12), (D_7 13), (D_7 14), (D_7 15), (D_7 16), (D_7 17), undef, undef]).toArray, []⟩) (by kernel_rfl) ?_
                          refine wp_seq ?_
                          refine lwp_list ?_
                          refine ls_y (d := some 118) (by kernel_rfl) (by kernel_rfl) HA_17 (y_ldn Try.isAgg23 Try.sizeOf23 (by kernel_rfl) H) (fun x118 H => ?_)
                          refine ls_d (d := some 119) (by kernel_rfl) (by kernel_rfl) HA_17 (d_call (by kernel_rfl) (by kernel_rfl) H) (fun x119 h_18 w_21 H HA_21 => ?_)
                          refine ls_assign (x := x119) (by kernel_rfl) (by kernel_rfl) ?_
                          refine ls_nil ?_
                          refine then_normal ?_
                          refine fr_eq (b := ⟨([x0, x1, x2, x3, x4, undef, undef, x7, undef, undef, x119, x11, x12, x13, (D_6 0), (D_6 1), (D_7 0), (D_7 1), x1, x19, x19, (D 0), (D 1), (D 2), x24, x24, (D_1 0), (D_1 1), (D_1 2), x29, x29, (D_2 0), (D_2 1), (D_2 2), x34, (D_3 0), (D_3 1), (D_3 2), (D_3 3), x39, x40, x3, x42, x43, x44, x45, x46, x47, x4, x49] ++ [x50, x51, x52, x53, x54, (D_4 0), (D_4 1), (D_4 2), (D_4 3), x59, x60, x60, (D_5 0), (D_5 1), x64, x65, x66, x67, x68, (D_6 3), (D_6 4), (D_6 5), (D_6 6), (D_6 7), (D_6 8), (D_6 9), (D_6 10), (D_6 11), (D_6 12), (D_6 13), (D_6 14), (D_6 15), (D_6 16), (D_6 17), (D_6 18), (D_6 19), (D_6 20), (D_6 21), (D_6 22), (D_6 23), (D_6 24), (D_6 25), (D_6 26), (D_6 27), (D_6 28), (D_6 29), (D_6 30), (D_6 31), (D_6 32), x13] ++ [x100, x101, x102, (D_7 3), (D_7 4), (D_7 5), (D_7 6), (D_7 7), (D_7 8), (D_7 9), (D_7 10), (D_7 11), (D_7 12), (D_7 13), (D_7 14), (D_7 15), (D_7 16), (D_7 17), x118, x119]).toArray, []⟩) (by kernel_rfl) ?_
                          refine wp_ret ?_
                          exact end1 (Try.results23) (by kernel_rfl) (by kernel_rfl) HA_21 H _ (.inr rfl)

end Go.Proofs.Ythhpieidlpjbmaa
