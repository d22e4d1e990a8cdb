/- The shallow reading of one function, and that the function does it. Written by a program. -/
import Derived.Test.YthhpieidlpjbmaaFnC
set_option linter.unusedVariables false
namespace Go.Proofs.Ythhpieidlpjbmaa
open Go Go.HW

def betonylaw06_GridNews_S (x0 x1 x2 x3 x4 : Value) (h : Heap) (R : Value → Heap → Prop) : Prop :=
  sBox h x4 27 fun x9 h => 
  sGt x0 (.int .i64 600) fun x16 =>
  sOr x16 (fun k_11 =>
  sGt x1 (.int .i64 600) fun x19 =>
  k_11 x19) fun x20 =>
  sOrH x20 h (fun k_9 =>
  betonyref06_Right_c x0 x1 h fun x24 h_29 => 
  sAnd x24 (fun k_10 =>
  sMul .i64 x0 x1 fun x28 =>
  sGt x28 (.int .i64 4000) fun x29 =>
  k_10 x29) fun x30 =>
  k_9 x30 h_29) fun x31 h_1 =>
  sIf x31 (betonylaw06_awake_c  h_1 fun x32 h_2 => 
  R x32 h_2) (grid_New_c x0 x1 h_1 fun x35 h_3 => 
  sNeqNil x35 fun x37 =>
  betonyref06_Right_c x0 x1 h_3 fun x40 h_4 => 
  sNeqB x37 x40 fun x41 =>
  sIf x41 (R (.bool false) h_4) (sEqlNil x35 fun x43 =>
  sIf x43 (betonylaw06_awake_c  h_4 fun x44 h_5 => 
  R x44 h_5) (grid_Grid_Resize_c x35 (.int .i64 0) x1 h_4 fun x47 h_6 => 
  sNeqNil x47 fun x48 =>
  sOrH x48 h_6 (fun k_8 =>
  grid_Grid_Resize_c x35 x0 (.int .i64 513) h_6 fun x52 h_28 => 
  sNeqNil x52 fun x53 =>
  k_8 x53 h_28) fun x54 h_7 =>
  sOrH x54 h_7 (fun k_7 =>
  grid_Grid_Row_c x35 (.int .i64 (-1)) h_7 fun x57 h_27 => 
  sLen x57 fun x58 =>
  sNe x58 (.int .i64 0) fun x59 =>
  k_7 x59 h_27) fun x60 h_8 =>
  sOrH x60 h_8 (fun k_6 =>
  grid_Grid_Row_c x35 x1 h_8 fun x64 h_26 => 
  sLen x64 fun x65 =>
  sNe x65 (.int .i64 0) fun x66 =>
  k_6 x66 h_26) fun x67 h_9 =>
  sOrH x67 h_9 (fun k_5 =>
  sBuild #[.int .i64 0, .int .i64 0, .int .i64 0, .int .i64 0] [(2, 1, (.int .i64 1)), (3, 1, (.int .i64 1))] fun x70 =>
  grid_Grid_Blit_c x35 (.pointer none) x70 (.int .i64 0) (.int .i64 0) h_9 fun x71 h_25 => 
  sNe x71 (.int .i64 0) fun x72 =>
  k_5 x72 h_25) fun x73 h_10 =>
  sIf x73 (R (.bool false) h_10) (grid_Grid_Clone_c x35 h_10 fun x75 h_11 => 
  grid_Grid_Equal_c x35 x75 h_11 fun x78 h_12 => 
  sNot x78 fun x79 =>
  sOrH x79 h_12 (fun k_4 =>
  grid_Grid_Equal_c x35 (.pointer none) h_12 fun x82 h_24 => 
  k_4 x82 h_24) fun x83 h_13 =>
  sIf x83 (R (.bool false) h_13) (sLdN h_13 x9 4 fun x87 =>
  grid_Grid_Set_c x75 x2 x3 x87 h_13 fun x88 h_14 => 
  grid_Grid_Row_c x35 (.int .i64 0) h_14 fun x90 h_15 => 
  sIxS x90 (.int .i64 0) 4 fun x92 =>
  sOff x92 0 fun x93 =>
  sSt h_15 x93 (.int .i32 9) fun h_16 => 
  grid_Grid_Equal_c x35 x75 h_16 fun x96 h_17 => 
  sNot x88 fun x98 =>
  sOr x98 (fun k_3 =>
  sLdN h_17 x9 4 fun x100 =>
  sBuild #[.int .i32 0, .int .i64 0, .int .i64 0, .int .i64 0] [] fun x101 =>
  sEqlAgg x100 x101 [some .i32, some .i64, some .i64, some .i64] fun x102 =>
  k_3 x102) fun x103 =>
  sEqlB x96 x103 fun x104 =>
  sAndH x104 h_17 (fun k_2 =>
  grid_Grid_At_c x35 x2 x3 h_17 fun x109 h_23 => 
  sBuild #[.int .i32 0, .int .i64 0, .int .i64 0, .int .i64 0] [] fun x110 =>
  sEqlAgg x109 x110 [some .i32, some .i64, some .i64, some .i64] fun x111 =>
  k_2 x111 h_23) fun x112 h_18 =>
  sAndH x112 h_18 (fun k_1 =>
  grid_Grid_At_c x35 (.int .i64 0) (.int .i64 0) h_18 fun x115 h_22 => 
  sBuild #[.int .i32 0, .int .i64 0, .int .i64 0, .int .i64 0] [] fun x116 =>
  sEqlAgg x115 x116 [some .i32, some .i64, some .i64, some .i64] fun x117 =>
  k_1 x117 h_22) fun x118 h_19 =>
  sAndH x118 h_19 (fun k =>
  betonylaw06_awake_c  h_19 fun x120 h_21 => 
  k x120 h_21) fun x121 h_20 =>
  R x121 h_20)))))
set_option maxRecDepth 100000 in
theorem betonylaw06_GridNews_runs {x0 x1 x2 x3 x4 : Value} {h : Heap} {R : Value → Heap → Prop} (H : betonylaw06_GridNews_S x0 x1 x2 x3 x4 h R) : betonylaw06_GridNews_c x0 x1 x2 x3 x4 h R := by
  unfold betonylaw06_GridNews_S at H
  refine runs_of (b := ⟨([x0, x1, x2, x3, x4, undef, undef, undef, undef, undef, undef, undef, undef, undef, undef, undef, undef, undef, undef, undef, undef, undef, undef, undef, undef, undef, undef, undef, undef, undef, undef, undef, undef, undef, undef, undef, undef, undef, undef, undef, undef, undef, undef, undef, undef, undef, undef, undef, undef, undef] ++ [undef, undef, undef, undef, undef, undef, undef, undef, undef, undef, undef, undef, undef, undef, undef, undef, undef, undef, undef, undef, undef, undef, undef, undef, undef, undef, undef, undef, undef, undef, undef, undef, undef, undef, undef, undef, undef, undef, undef, undef, undef, undef, undef, undef, undef, undef, undef, undef, undef, undef] ++ [undef, undef, undef, undef, undef, undef, undef, undef, undef, undef, undef, undef, undef, undef, undef, undef, undef, undef, undef, undef, undef, undef]).toArray, []⟩) Try.call6 Try.func6 rfl (by kernel_rfl) (fun w0 HA => ?_)
  refine wp_seq ?_
  refine lwp_list ?_
  refine ls_d (d := some 9) (by kernel_rfl) (by kernel_rfl) HA (d_box (by kernel_rfl) H) (fun x9 h w H HA => ?_)
  refine ls_assign (x := (.bool false)) (by kernel_rfl) (by kernel_rfl) ?_
  refine ls_nil ?_
  refine then_normal ?_
  refine fr_eq (b := ⟨([x0, x1, x2, x3, x4, undef, undef, undef, undef, x9, (.bool false), undef, undef, undef, undef, undef, undef, undef, undef, undef, undef, undef, undef, undef, undef, undef, undef, undef, undef, undef, undef, undef, undef, undef, undef, undef, undef, undef, undef, undef, undef, undef, undef, undef, undef, undef, undef, undef, undef, undef] ++ [undef, undef, undef, undef, undef, undef, undef, undef, undef, undef, undef, undef, undef, undef, undef, undef, undef, undef, undef, undef, undef, undef, undef, undef, undef, undef, undef, undef, undef, undef, undef, undef, undef, undef, undef, undef, undef, undef, undef, undef, undef, undef, undef, undef, undef, undef, undef, undef, undef, undef] ++ [undef, undef, undef, undef, undef, undef, undef, undef, undef, undef, undef, undef, undef, undef, undef, undef, undef, undef, undef, undef, undef, undef]).toArray, []⟩) (by kernel_rfl) ?_
  refine wp_seq ?_
  refine wp_seq ?_
  refine lwp_list ?_
  refine ls_move (x := x0) (by kernel_rfl) (by kernel_rfl) ?_
  refine ls_p (d := some 16) (by kernel_rfl) (by kernel_rfl) (p_sGt (by kernel_rfl) (by kernel_rfl) H) (fun x16 H => ?_)
  refine ls_move (x := x16) (by kernel_rfl) (by kernel_rfl) ?_
  refine ls_or [(), (), ()] (fun K a w => ∃ (D : Nat → Value) (x20 : Value), a = ⟨([x0, x1, x2, x3, x4, undef, undef, undef, undef, x9, (.bool false), undef, undef, undef, undef, x0, x16, x16, (D 0), (D 1), x20, undef, undef, undef, undef, undef, undef, undef, undef, undef, undef, undef, undef, undef, undef, undef, undef, undef, undef, undef, undef, undef, undef, undef, undef, undef, undef, undef, undef, undef] ++ [undef, undef, undef, undef, undef, undef, undef, undef, undef, undef, undef, undef, undef, undef, undef, undef, undef, undef, undef, undef, undef, undef, undef, undef, undef, undef, undef, undef, undef, undef, undef, undef, undef, undef, undef, undef, undef, undef, undef, undef, undef, undef, undef, undef, undef, undef, undef, undef, undef, undef] ++ [undef, undef, undef, undef, undef, undef, undef, undef, undef, undef, undef, undef, undef, undef, undef, undef, undef, undef, undef, undef, undef, undef]).toArray, []⟩ ∧ At w0 w h ∧ K x20) H (fun hb_11 H => ?_) (fun hb_11 H => ?_) ?_
  · refine ls_move (x := x1) (by rw [hb_11]; kernel_rfl) (by kernel_rfl) ?_
    refine ls_p (d := some 19) (by kernel_rfl) (by rw [hb_11]; kernel_rfl) (p_sGt (by kernel_rfl) (by kernel_rfl) H) (fun x19 H => ?_)
    refine ls_pick_f (y := x19) (by kernel_rfl) (by rw [hb_11]; kernel_rfl) (by kernel_rfl) ?_
    refine ls_nil ?_
    refine then_normal ?_
    exact ⟨(fun i => ([x1, x19]).getD i undef), x19, by kernel_rfl, HA, H⟩
  · refine ls_skip (d := some 18) (by kernel_rfl) (by rw [hb_11]; kernel_rfl) ?_
    refine ls_skip (d := some 19) (by kernel_rfl) (by rw [hb_11]; kernel_rfl) ?_
    refine ls_pick_t (x := (.bool true)) (by kernel_rfl) (by rw [hb_11]; kernel_rfl) (by kernel_rfl) ?_
    refine ls_nil ?_
    refine then_normal ?_
    exact ⟨(fun i => ([undef, undef]).getD i undef), (.bool true), by kernel_rfl, HA, H⟩
  · rintro _ w_1 ⟨D, x20, rfl, HA_1, H⟩
    refine ls_move (x := x20) (by kernel_rfl) (by kernel_rfl) ?_
    refine ls_orh [(), (), (), (), (), (), (), (), (), ()] (fun K a w => ∃ (D_1 : Nat → Value) (x31 : Value) (h_1 : Heap), a = ⟨([x0, x1, x2, x3, x4, undef, undef, undef, undef, x9, (.bool false), undef, undef, undef, undef, x0, x16, x16, (D 0), (D 1), x20, x20, (D_1 0), (D_1 1), (D_1 2), (D_1 3), (D_1 4), (D_1 5), (D_1 6), (D_1 7), (D_1 8), x31, undef, undef, undef, undef, undef, undef, undef, undef, undef, undef, undef, undef, undef, undef, undef, undef, undef, undef] ++ [undef, undef, undef, undef, undef, undef, undef, undef, undef, undef, undef, undef, undef, undef, undef, undef, undef, undef, undef, undef, undef, undef, undef, undef, undef, undef, undef, undef, undef, undef, undef, undef, undef, undef, undef, undef, undef, undef, undef, undef, undef, undef, undef, undef, undef, undef, undef, undef, undef, undef] ++ [undef, undef, undef, undef, undef, undef, undef, undef, undef, undef, undef, undef, undef, undef, undef, undef, undef, undef, undef, undef, undef, undef]).toArray, []⟩ ∧ At w0 w h_1 ∧ K x31 h_1) H (fun hb_9 H => ?_) (fun hb_9 H => ?_) ?_
    · refine ls_move (x := x0) (by rw [hb_9]; kernel_rfl) (by kernel_rfl) ?_
      refine ls_move (x := x1) (by rw [hb_9]; kernel_rfl) (by kernel_rfl) ?_
      refine ls_d (d := some 24) (by kernel_rfl) (by rw [hb_9]; kernel_rfl) HA_1 (d_call (by kernel_rfl) (by kernel_rfl) H) (fun x24 h_29 w_31 H HA_31 => ?_)
      refine ls_move (x := x24) (by rw [hb_9]; kernel_rfl) (by kernel_rfl) ?_
      refine ls_and [(), (), (), (), ()] (fun K a w => ∃ (D_11 : Nat → Value) (x30 : Value), a = ⟨([x0, x1, x2, x3, x4, undef, undef, undef, undef, x9, (.bool false), undef, undef, undef, undef, x0, x16, x16, (D 0), (D 1), x20, x20, x0, x1, x24, x24, (D_11 0), (D_11 1), (D_11 2), (D_11 3), x30, undef, undef, undef, undef, undef, undef, undef, undef, undef, undef, undef, undef, undef, undef, undef, undef, undef, undef, undef] ++ [undef, undef, undef, undef, undef, undef, undef, undef, undef, undef, undef, undef, undef, undef, undef, undef, undef, undef, undef, undef, undef, undef, undef, undef, undef, undef, undef, undef, undef, undef, undef, undef, undef, undef, undef, undef, undef, undef, undef, undef, undef, undef, undef, undef, undef, undef, undef, undef, undef, undef] ++ [undef, undef, undef, undef, undef, undef, undef, undef, undef, undef, undef, undef, undef, undef, undef, undef, undef, undef, undef, undef, undef, undef]).toArray, []⟩ ∧ At w0 w h_29 ∧ K x30) H (fun hb_10 H => ?_) (fun hb_10 H => ?_) ?_
      · refine ls_move (x := x0) (by rw [hb_10]; kernel_rfl) (by kernel_rfl) ?_
        refine ls_fr (b := ⟨([x0, x1, x2, x3, x4, undef, undef, undef, undef, x9, (.bool false), undef, undef, undef, undef, x0, x16, x16, (D 0), (D 1), x20, x20, x0, x1, x24, x24, x0, undef, undef, undef, undef, undef, undef, undef, undef, undef, undef, undef, undef, undef, undef, undef, undef, undef, undef, undef, undef, undef, undef, undef] ++ [undef, undef, undef, undef, undef, undef, undef, undef, undef, undef, undef, undef, undef, undef, undef, undef, undef, undef, undef, undef, undef, undef, undef, undef, undef, undef, undef, undef, undef, undef, undef, undef, undef, undef, undef, undef, undef, undef, undef, undef, undef, undef, undef, undef, undef, undef, undef, undef, undef, undef] ++ [undef, undef, undef, undef, undef, undef, undef, undef, undef, undef, undef, undef, undef, undef, undef, undef, undef, undef, undef, undef, undef, undef]).toArray, []⟩) (by kernel_rfl) ?_
        refine ls_move (x := x1) (by rw [hb_10]; kernel_rfl) (by kernel_rfl) ?_
        refine ls_p (d := some 28) (by kernel_rfl) (by rw [hb_10]; kernel_rfl) (p_mul (by kernel_rfl) (by kernel_rfl) H) (fun x28 H => ?_)
        refine ls_p (d := some 29) (by kernel_rfl) (by rw [hb_10]; kernel_rfl) (p_sGt (by kernel_rfl) (by kernel_rfl) H) (fun x29 H => ?_)
        refine ls_pick_t (x := x29) (by rw [hb_9]; kernel_rfl) (by rw [hb_10]; kernel_rfl) (by kernel_rfl) ?_
        refine ls_nil ?_
        refine then_normal ?_
        exact ⟨(fun i => ([x0, x1, x28, x29]).getD i undef), x29, by kernel_rfl, HA_31, H⟩
      · refine ls_skip (d := some 26) (by kernel_rfl) (by rw [hb_10]; kernel_rfl) ?_
        refine ls_fr (b := ⟨([x0, x1, x2, x3, x4, undef, undef, undef, undef, x9, (.bool false), undef, undef, undef, undef, x0, x16, x16, (D 0), (D 1), x20, x20, x0, x1, x24, x24, undef, undef, undef, undef, undef, undef, undef, undef, undef, undef, undef, undef, undef, undef, undef, undef, undef, undef, undef, undef, undef, undef, undef, undef] ++ [undef, undef, undef, undef, undef, undef, undef, undef, undef, undef, undef, undef, undef, undef, undef, undef, undef, undef, undef, undef, undef, undef, undef, undef, undef, undef, undef, undef, undef, undef, undef, undef, undef, undef, undef, undef, undef, undef, undef, undef, undef, undef, undef, undef, undef, undef, undef, undef, undef, undef] ++ [undef, undef, undef, undef, undef, undef, undef, undef, undef, undef, undef, undef, undef, undef, undef, undef, undef, undef, undef, undef, undef, undef]).toArray, []⟩) (by kernel_rfl) ?_
        refine ls_skip (d := some 27) (by kernel_rfl) (by rw [hb_10]; kernel_rfl) ?_
        refine ls_skip (d := some 28) (by kernel_rfl) (by rw [hb_10]; kernel_rfl) ?_
        refine ls_skip (d := some 29) (by kernel_rfl) (by rw [hb_10]; kernel_rfl) ?_
        refine ls_pick_f (y := (.bool false)) (by rw [hb_9]; kernel_rfl) (by rw [hb_10]; kernel_rfl) (by kernel_rfl) ?_
        refine ls_nil ?_
        refine then_normal ?_
        exact ⟨(fun i => ([undef, undef, undef, undef]).getD i undef), (.bool false), by kernel_rfl, HA_31, H⟩
      · rintro _ w_32 ⟨D_11, x30, rfl, HA_32, H⟩
        refine ls_pick_f (y := x30) (by kernel_rfl) (by rw [hb_9]; kernel_rfl) (by kernel_rfl) ?_
        refine ls_nil ?_
        refine then_normal ?_
        exact ⟨(fun i => ([x0, x1, x24, x24, (D_11 0), (D_11 1), (D_11 2), (D_11 3), x30]).getD i undef), x30, h_29, by kernel_rfl, HA_32, H⟩
    · refine ls_skip (d := some 22) (by kernel_rfl) (by rw [hb_9]; kernel_rfl) ?_
      refine ls_skip (d := some 23) (by kernel_rfl) (by rw [hb_9]; kernel_rfl) ?_
      refine ls_skip (d := some 24) (by kernel_rfl) (by rw [hb_9]; kernel_rfl) ?_
      refine ls_skip (d := some 25) (by kernel_rfl) (by rw [hb_9]; kernel_rfl) ?_
      refine ls_skip (d := some 26) (by kernel_rfl) (by kernel_rfl) ?_
      refine ls_fr (b := ⟨([x0, x1, x2, x3, x4, undef, undef, undef, undef, x9, (.bool false), undef, undef, undef, undef, x0, x16, x16, (D 0), (D 1), x20, x20, undef, undef, undef, undef, undef, undef, undef, undef, undef, undef, undef, undef, undef, undef, undef, undef, undef, undef, undef, undef, undef, undef, undef, undef, undef, undef, undef, undef] ++ [undef, undef, undef, undef, undef, undef, undef, undef, undef, undef, undef, undef, undef, undef, undef, undef, undef, undef, undef, undef, undef, undef, undef, undef, undef, undef, undef, undef, undef, undef, undef, undef, undef, undef, undef, undef, undef, undef, undef, undef, undef, undef, undef, undef, undef, undef, undef, undef, undef, undef] ++ [undef, undef, undef, undef, undef, undef, undef, undef, undef, undef, undef, undef, undef, undef, undef, undef, undef, undef, undef, undef, undef, undef]).toArray, []⟩) (by kernel_rfl) ?_
      refine ls_skip (d := some 27) (by kernel_rfl) (by kernel_rfl) ?_
      refine ls_skip (d := some 28) (by kernel_rfl) (by kernel_rfl) ?_
      refine ls_skip (d := some 29) (by kernel_rfl) (by kernel_rfl) ?_
      refine ls_skip (d := some 30) (by kernel_rfl) (by rw [hb_9]; kernel_rfl) ?_
      refine ls_pick_t (x := (.bool true)) (by kernel_rfl) (by rw [hb_9]; kernel_rfl) (by kernel_rfl) ?_
      refine ls_nil ?_
      refine then_normal ?_
      exact ⟨(fun i => ([undef, undef, undef, undef, undef, undef, undef, undef, undef]).getD i undef), (.bool true), h, by kernel_rfl, HA_1, H⟩
    · rintro _ w_2 ⟨D_1, x31, h_1, rfl, HA_2, H⟩
      refine ls_nil ?_
      refine then_normal ?_
      refine fr_eq (b := ⟨([x0, x1, x2, x3, x4, undef, undef, undef, undef, x9, (.bool false), undef, undef, undef, undef, x0, x16, x16, (D 0), (D 1), x20, x20, (D_1 0), (D_1 1), (D_1 2), (D_1 3), (D_1 4), (D_1 5), (D_1 6), (D_1 7), (D_1 8), x31, undef, undef, undef, undef, undef, undef, undef, undef, undef, undef, undef, undef, undef, undef, undef, undef, undef, undef] ++ [undef, undef, undef, undef, undef, undef, undef, undef, undef, undef, undef, undef, undef, undef, undef, undef, undef, undef, undef, undef, undef, undef, undef, undef, undef, undef, undef, undef, undef, undef, undef, undef, undef, undef, undef, undef, undef, undef, undef, undef, undef, undef, undef, undef, undef, undef, undef, undef, undef, undef] ++ [undef, undef, undef, undef, undef, undef, undef, undef, undef, undef, undef, undef, undef, undef, undef, undef, undef, undef, undef, undef, undef, undef]).toArray, []⟩) (by kernel_rfl) ?_
      refine wp_if rfl H (fun H => ?_) (fun H => ?_)
      · refine wp_seq ?_
        refine lwp_list ?_
        refine ls_d (d := some 32) (by kernel_rfl) (by kernel_rfl) HA_2 (d_call (by kernel_rfl) (by kernel_rfl) H) (fun x32 h_2 w_3 H HA_3 => ?_)
        refine ls_assign (x := x32) (by kernel_rfl) (by kernel_rfl) ?_
        refine ls_nil ?_
        refine then_normal ?_
        refine fr_eq (b := ⟨([x0, x1, x2, x3, x4, undef, undef, undef, undef, x9, x32, undef, undef, undef, undef, x0, x16, x16, (D 0), (D 1), x20, x20, (D_1 0), (D_1 1), (D_1 2), (D_1 3), (D_1 4), (D_1 5), (D_1 6), (D_1 7), (D_1 8), x31, x32, undef, undef, undef, undef, undef, undef, undef, undef, undef, undef, undef, undef, undef, undef, undef, undef, undef] ++ [undef, undef, undef, undef, undef, undef, undef, undef, undef, undef, undef, undef, undef, undef, undef, undef, undef, undef, undef, undef, undef, undef, undef, undef, undef, undef, undef, undef, undef, undef, undef, undef, undef, undef, undef, undef, undef, undef, undef, undef, undef, undef, undef, undef, undef, undef, undef, undef, undef, undef] ++ [undef, undef, undef, undef, undef, undef, undef, undef, undef, undef, undef, undef, undef, undef, undef, undef, undef, undef, undef, undef, undef, undef]).toArray, []⟩) (by kernel_rfl) ?_
        refine wp_ret ?_
        refine then_ret ?_
        exact end1 (Try.results6) (by kernel_rfl) (by kernel_rfl) HA_3 H _ (.inr rfl)
      · refine wp_skip ?_
        refine then_normal ?_
        refine fr_eq (b := ⟨([x0, x1, x2, x3, x4, undef, undef, undef, undef, x9, (.bool false), undef, undef, undef, undef, x0, x16, x16, (D 0), (D 1), x20, x20, (D_1 0), (D_1 1), (D_1 2), (D_1 3), (D_1 4), (D_1 5), (D_1 6), (D_1 7), (D_1 8), x31, undef, undef, undef, undef, undef, undef, undef, undef, undef, undef, undef, undef, undef, undef, undef, undef, undef, undef] ++ [undef, undef, undef, undef, undef, undef, undef, undef, undef, undef, undef, undef, undef, undef, undef, undef, undef, undef, undef, undef, undef, undef, undef, undef, undef, undef, undef, undef, undef, undef, undef, undef, undef, undef, undef, undef, undef, undef, undef, undef, undef, undef, undef, undef, undef, undef, undef, undef, undef, undef] ++ [undef, undef, undef, undef, undef, undef, undef, undef, undef, undef, undef, undef, undef, undef, undef, undef, undef, undef, undef, undef, undef, undef]).toArray, []⟩) (by kernel_rfl) ?_
        refine wp_seq ?_
        refine lwp_list ?_
        refine ls_move (x := x0) (by kernel_rfl) (by kernel_rfl) ?_
        refine ls_move (x := x1) (by kernel_rfl) (by kernel_rfl) ?_
        refine ls_d (d := some 35) (by kernel_rfl) (by kernel_rfl) HA_2 (d_call (by kernel_rfl) (by kernel_rfl) H) (fun x35 h_3 w_4 H HA_4 => ?_)
        refine ls_assign (x := x35) (by kernel_rfl) (by kernel_rfl) ?_
        refine ls_nil ?_
        refine then_normal ?_
        refine fr_eq (b := ⟨([x0, x1, x2, x3, x4, undef, undef, undef, undef, x9, (.bool false), x35, undef, undef, undef, x0, x16, x16, (D 0), (D 1), x20, x20, (D_1 0), (D_1 1), (D_1 2), (D_1 3), (D_1 4), (D_1 5), (D_1 6), (D_1 7), (D_1 8), x31, undef, x0, x1, x35, undef, undef, undef, undef, undef, undef, undef, undef, undef, undef, undef, undef, undef, undef] ++ [undef, undef, undef, undef, undef, undef, undef, undef, undef, undef, undef, undef, undef, undef, undef, undef, undef, undef, undef, undef, undef, undef, undef, undef, undef, undef, undef, undef, undef, undef, undef, undef, undef, undef, undef, undef, undef, undef, undef, undef, undef, undef, undef, undef, undef, undef, undef, undef, undef, undef] ++ [undef, undef, undef, undef, undef, undef, undef, undef, undef, undef, undef, undef, undef, undef, undef, undef, undef, undef, undef, undef, undef, undef]).toArray, []⟩) (by kernel_rfl) ?_
        refine wp_seq ?_
        refine wp_seq ?_
        refine lwp_list ?_
        refine ls_move (x := x35) (by kernel_rfl) (by kernel_rfl) ?_
        refine ls_p (d := some 37) (by kernel_rfl) (by kernel_rfl) (p_neqNil Try.underlying28 (by kernel_rfl) (by kernel_rfl) H) (fun x37 H => ?_)
        refine ls_move (x := x0) (by kernel_rfl) (by kernel_rfl) ?_
        refine ls_move (x := x1) (by kernel_rfl) (by kernel_rfl) ?_
        refine ls_d (d := some 40) (by kernel_rfl) (by kernel_rfl) HA_4 (d_call (by kernel_rfl) (by kernel_rfl) H) (fun x40 h_4 w_5 H HA_5 => ?_)
        refine ls_p (d := some 41) (by kernel_rfl) (by kernel_rfl) (p_neqB Try.underlying4 (by kernel_rfl) (by kernel_rfl) H) (fun x41 H => ?_)
        refine ls_nil ?_
        refine then_normal ?_
        refine fr_eq (b := ⟨([x0, x1, x2, x3, x4, undef, undef, undef, undef, x9, (.bool false), x35, undef, undef, undef, x0, x16, x16, (D 0), (D 1), x20, x20, (D_1 0), (D_1 1), (D_1 2), (D_1 3), (D_1 4), (D_1 5), (D_1 6), (D_1 7), (D_1 8), x31, undef, x0, x1, x35, x35, x37, x0, x1, x40, x41, undef, undef, undef, undef, undef, undef, undef, undef] ++ [undef, undef, undef, undef, undef, undef, undef, undef, undef, undef, undef, undef, undef, undef, undef, undef, undef, undef, undef, undef, undef, undef, undef, undef, undef, undef, undef, undef, undef, undef, undef, undef, undef, undef, undef, undef, undef, undef, undef, undef, undef, undef, undef, undef, undef, undef, undef, undef, undef, undef] ++ [undef, undef, undef, undef, undef, undef, undef, undef, undef, undef, undef, undef, undef, undef, undef, undef, undef, undef, undef, undef, undef, undef]).toArray, []⟩) (by kernel_rfl) ?_
        refine wp_if rfl H (fun H => ?_) (fun H => ?_)
        · refine wp_seq ?_
          refine lwp_list ?_
          refine ls_assign (x := (.bool false)) (by kernel_rfl) (by kernel_rfl) ?_
          refine ls_nil ?_
          refine then_normal ?_
          refine fr_eq (b := ⟨([x0, x1, x2, x3, x4, undef, undef, undef, undef, x9, (.bool false), x35, undef, undef, undef, x0, x16, x16, (D 0), (D 1), x20, x20, (D_1 0), (D_1 1), (D_1 2), (D_1 3), (D_1 4), (D_1 5), (D_1 6), (D_1 7), (D_1 8), x31, undef, x0, x1, x35, x35, x37, x0, x1, x40, x41, undef, undef, undef, undef, undef, undef, undef, undef] ++ [undef, undef, undef, undef, undef, undef, undef, undef, undef, undef, undef, undef, undef, undef, undef, undef, undef, undef, undef, undef, undef, undef, undef, undef, undef, undef, undef, undef, undef, undef, undef, undef, undef, undef, undef, undef, undef, undef, undef, undef, undef, undef, undef, undef, undef, undef, undef, undef, undef, undef] ++ [undef, undef, undef, undef, undef, undef, undef, undef, undef, undef, undef, undef, undef, undef, undef, undef, undef, undef, undef, undef, undef, undef]).toArray, []⟩) (by kernel_rfl) ?_
          refine wp_ret ?_
          refine then_ret ?_
          exact end1 (Try.results6) (by kernel_rfl) (by kernel_rfl) HA_5 H _ (.inr rfl)
        · refine wp_skip ?_
          refine then_normal ?_
          refine fr_eq (b := ⟨([x0, x1, x2, x3, x4, undef, undef, undef, undef, x9, (.bool false), x35, undef, undef, undef, x0, x16, x16, (D 0), (D 1), x20, x20, (D_1 0), (D_1 1), (D_1 2), (D_1 3), (D_1 4), (D_1 5), (D_1 6), (D_1 7), (D_1 8), x31, undef, x0, x1, x35, x35, x37, x0, x1, x40, x41, undef, undef, undef, undef, undef, undef, undef, undef] ++ [undef, undef, undef, undef, undef, undef, undef, undef, undef, undef, undef, undef, undef, undef, undef, undef, undef, undef, undef, undef, undef, undef, undef, undef, undef, undef, undef, undef, undef, undef, undef, undef, undef, undef, undef, undef, undef, undef, undef, undef, undef, undef, undef, undef, undef, undef, undef, undef, undef, undef] ++ [undef, undef, undef, undef, undef, undef, undef, undef, undef, undef, undef, undef, undef, undef, undef, undef, undef, undef, undef, undef, undef, undef]).toArray, []⟩) (by kernel_rfl) ?_
          refine wp_seq ?_
          refine wp_seq ?_
          refine lwp_list ?_
          refine ls_move (x := x35) (by kernel_rfl) (by kernel_rfl) ?_
          refine ls_p (d := some 43) (by kernel_rfl) (by kernel_rfl) (p_eqlNil Try.underlying28 (by kernel_rfl) (by kernel_rfl) H) (fun x43 H => ?_)
          refine ls_nil ?_
          refine then_normal ?_
          refine fr_eq (b := ⟨([x0, x1, x2, x3, x4, undef, undef, undef, undef, x9, (.bool false), x35, undef, undef, undef, x0, x16, x16, (D 0), (D 1), x20, x20, (D_1 0), (D_1 1), (D_1 2), (D_1 3), (D_1 4), (D_1 5), (D_1 6), (D_1 7), (D_1 8), x31, undef, x0, x1, x35, x35, x37, x0, x1, x40, x41, x35, x43, undef, undef, undef, undef, undef, undef] ++ [undef, undef, undef, undef, undef, undef, undef, undef, undef, undef, undef, undef, undef, undef, undef, undef, undef, undef, undef, undef, undef, undef, undef, undef, undef, undef, undef, undef, undef, undef, undef, undef, undef, undef, undef, undef, undef, undef, undef, undef, undef, undef, undef, undef, undef, undef, undef, undef, undef, undef] ++ [undef, undef, undef, undef, undef, undef, undef, undef, undef, undef, undef, undef, undef, undef, undef, undef, undef, undef, undef, undef, undef, undef]).toArray, []⟩) (by kernel_rfl) ?_
          refine wp_if rfl H (fun H => ?_) (fun H => ?_)
          · refine wp_seq ?_
            refine lwp_list ?_
            refine ls_d (d := some 44) (by kernel_rfl) (by kernel_rfl) HA_5 (d_call (by kernel_rfl) (by kernel_rfl) H) (fun x44 h_5 w_6 H HA_6 => ?_)
            refine ls_assign (x := x44) (by kernel_rfl) (by kernel_rfl) ?_
            refine ls_nil ?_
            refine then_normal ?_
            refine fr_eq (b := ⟨([x0, x1, x2, x3, x4, undef, undef, undef, undef, x9, x44, x35, undef, undef, undef, x0, x16, x16, (D 0), (D 1), x20, x20, (D_1 0), (D_1 1), (D_1 2), (D_1 3), (D_1 4), (D_1 5), (D_1 6), (D_1 7), (D_1 8), x31, undef, x0, x1, x35, x35, x37, x0, x1, x40, x41, x35, x43, x44, undef, undef, undef, undef, undef] ++ [undef, undef, undef, undef, undef, undef, undef, undef, undef, undef, undef, undef, undef, undef, undef, undef, undef, undef, undef, undef, undef, undef, undef, undef, undef, undef, undef, undef, undef, undef, undef, undef, undef, undef, undef, undef, undef, undef, undef, undef, undef, undef, undef, undef, undef, undef, undef, undef, undef, undef] ++ [undef, undef, undef, undef, undef, undef, undef, undef, undef, undef, undef, undef, undef, undef, undef, undef, undef, undef, undef, undef, undef, undef]).toArray, []⟩) (by kernel_rfl) ?_
            refine wp_ret ?_
            refine then_ret ?_
            exact end1 (Try.results6) (by kernel_rfl) (by kernel_rfl) HA_6 H _ (.inr rfl)
          · refine wp_skip ?_
            refine then_normal ?_
            refine fr_eq (b := ⟨([x0, x1, x2, x3, x4, undef, undef, undef, undef, x9, (.bool false), x35, undef, undef, undef, x0, x16, x16, (D 0), (D 1), x20, x20, (D_1 0), (D_1 1), (D_1 2), (D_1 3), (D_1 4), (D_1 5), (D_1 6), (D_1 7), (D_1 8), x31, undef, x0, x1, x35, x35, x37, x0, x1, x40, x41, x35, x43, undef, undef, undef, undef, undef, undef] ++ [undef, undef, undef, undef, undef, undef, undef, undef, undef, undef, undef, undef, undef, undef, undef, undef, undef, undef, undef, undef, undef, undef, undef, undef, undef, undef, undef, undef, undef, undef, undef, undef, undef, undef, undef, undef, undef, undef, undef, undef, undef, undef, undef, undef, undef, undef, undef, undef, undef, undef] ++ [undef, undef, undef, undef, undef, undef, undef, undef, undef, undef, undef, undef, undef, undef, undef, undef, undef, undef, undef, undef, undef, undef]).toArray, []⟩) (by kernel_rfl) ?_
            refine wp_seq ?_
            refine wp_seq ?_
            refine lwp_list ?_
            refine ls_move (x := x35) (by kernel_rfl) (by kernel_rfl) ?_
            refine ls_move (x := x1) (by kernel_rfl) (by kernel_rfl) ?_
            refine ls_d (d := some 47) (by kernel_rfl) (by kernel_rfl) HA_5 (d_call (by kernel_rfl) (by kernel_rfl) H) (fun x47 h_6 w_7 H HA_7 => ?_)
            refine ls_p (d := some 48) (by kernel_rfl) (by kernel_rfl) (p_neqNil Try.underlying28 (by kernel_rfl) (by kernel_rfl) H) (fun x48 H => ?_)
            refine ls_move (x := x48) (by kernel_rfl) (by kernel_rfl) ?_
            refine ls_orh [(), (), (), (), ()] (fun K a w => ∃ (D_2 : Nat → Value) (x54 : Value) (h_7 : Heap), a = ⟨([x0, x1, x2, x3, x4, undef, undef, undef, undef, x9, (.bool false), x35, undef, undef, undef, x0, x16, x16, (D 0), (D 1), x20, x20, (D_1 0), (D_1 1), (D_1 2), (D_1 3), (D_1 4), (D_1 5), (D_1 6), (D_1 7), (D_1 8), x31, undef, x0, x1, x35, x35, x37, x0, x1, x40, x41, x35, x43, undef, x35, x1, x47, x48, x48] ++ [(D_2 0), (D_2 1), (D_2 2), (D_2 3), x54, undef, undef, undef, undef, undef, undef, undef, undef, undef, undef, undef, undef, undef, undef, undef, undef, undef, undef, undef, undef, undef, undef, undef, undef, undef, undef, undef, undef, undef, undef, undef, undef, undef, undef, undef, undef, undef, undef, undef, undef, undef, undef, undef, undef, undef] ++ [undef, undef, undef, undef, undef, undef, undef, undef, undef, undef, undef, undef, undef, undef, undef, undef, undef, undef, undef, undef, undef, undef]).toArray, []⟩ ∧ At w0 w h_7 ∧ K x54 h_7) H (fun hb_8 H => ?_) (fun hb_8 H => ?_) ?_
            · refine ls_move (x := x35) (by rw [hb_8]; kernel_rfl) (by kernel_rfl) ?_
              refine ls_fr (b := ⟨([x0, x1, x2, x3, x4, undef, undef, undef, undef, x9, (.bool false), x35, undef, undef, undef, x0, x16, x16, (D 0), (D 1), x20, x20, (D_1 0), (D_1 1), (D_1 2), (D_1 3), (D_1 4), (D_1 5), (D_1 6), (D_1 7), (D_1 8), x31, undef, x0, x1, x35, x35, x37, x0, x1, x40, x41, x35, x43, undef, x35, x1, x47, x48, x48] ++ [x35, undef, undef, undef, undef, undef, undef, undef, undef, undef, undef, undef, undef, undef, undef, undef, undef, undef, undef, undef, undef, undef, undef, undef, undef, undef, undef, undef, undef, undef, undef, undef, undef, undef, undef, undef, undef, undef, undef, undef, undef, undef, undef, undef, undef, undef, undef, undef, undef, undef] ++ [undef, undef, undef, undef, undef, undef, undef, undef, undef, undef, undef, undef, undef, undef, undef, undef, undef, undef, undef, undef, undef, undef]).toArray, []⟩) (by kernel_rfl) ?_
              refine ls_move (x := x0) (by rw [hb_8]; kernel_rfl) (by kernel_rfl) ?_
              refine ls_d (d := some 52) (by kernel_rfl) (by rw [hb_8]; kernel_rfl) HA_7 (d_call (by kernel_rfl) (by kernel_rfl) H) (fun x52 h_28 w_30 H HA_30 => ?_)
              refine ls_p (d := some 53) (by kernel_rfl) (by rw [hb_8]; kernel_rfl) (p_neqNil Try.underlying28 (by kernel_rfl) (by kernel_rfl) H) (fun x53 H => ?_)
              refine ls_pick_f (y := x53) (by kernel_rfl) (by rw [hb_8]; kernel_rfl) (by kernel_rfl) ?_
              refine ls_nil ?_
              refine then_normal ?_
              exact ⟨(fun i => ([x35, x0, x52, x53]).getD i undef), x53, h_28, by kernel_rfl, HA_30, H⟩
            · refine ls_skip (d := some 50) (by kernel_rfl) (by rw [hb_8]; kernel_rfl) ?_
              refine ls_fr (b := ⟨([x0, x1, x2, x3, x4, undef, undef, undef, undef, x9, (.bool false), x35, undef, undef, undef, x0, x16, x16, (D 0), (D 1), x20, x20, (D_1 0), (D_1 1), (D_1 2), (D_1 3), (D_1 4), (D_1 5), (D_1 6), (D_1 7), (D_1 8), x31, undef, x0, x1, x35, x35, x37, x0, x1, x40, x41, x35, x43, undef, x35, x1, x47, x48, x48] ++ [undef, undef, undef, undef, undef, undef, undef, undef, undef, undef, undef, undef, undef, undef, undef, undef, undef, undef, undef, undef, undef, undef, undef, undef, undef, undef, undef, undef, undef, undef, undef, undef, undef, undef, undef, undef, undef, undef, undef, undef, undef, undef, undef, undef, undef, undef, undef, undef, undef, undef] ++ [undef, undef, undef, undef, undef, undef, undef, undef, undef, undef, undef, undef, undef, undef, undef, undef, undef, undef, undef, undef, undef, undef]).toArray, []⟩) (by kernel_rfl) ?_
              refine ls_skip (d := some 51) (by kernel_rfl) (by rw [hb_8]; kernel_rfl) ?_
              refine ls_skip (d := some 52) (by kernel_rfl) (by rw [hb_8]; kernel_rfl) ?_
              refine ls_skip (d := some 53) (by kernel_rfl) (by rw [hb_8]; kernel_rfl) ?_
              refine ls_pick_t (x := (.bool true)) (by kernel_rfl) (by rw [hb_8]; kernel_rfl) (by kernel_rfl) ?_
              refine ls_nil ?_
              refine then_normal ?_
              exact ⟨(fun i => ([undef, undef, undef, undef]).getD i undef), (.bool true), h_6, by kernel_rfl, HA_7, H⟩
            · rintro _ w_8 ⟨D_2, x54, h_7, rfl, HA_8, H⟩
              refine ls_move (x := x54) (by kernel_rfl) (by kernel_rfl) ?_
              refine ls_orh [(), (), (), (), ()] (fun K a w => ∃ (D_3 : Nat → Value) (x60 : Value) (h_8 : Heap), a = ⟨([x0, x1, x2, x3, x4, undef, undef, undef, undef, x9, (.bool false), x35, undef, undef, undef, x0, x16, x16, (D 0), (D 1), x20, x20, (D_1 0), (D_1 1), (D_1 2), (D_1 3), (D_1 4), (D_1 5), (D_1 6), (D_1 7), (D_1 8), x31, undef, x0, x1, x35, x35, x37, x0, x1, x40, x41, x35, x43, undef, x35, x1, x47, x48, x48] ++ [(D_2 0), (D_2 1), (D_2 2), (D_2 3), x54, x54, (D_3 0), (D_3 1), (D_3 2), (D_3 3), x60, undef, undef, undef, undef, undef, undef, undef, undef, undef, undef, undef, undef, undef, undef, undef, undef, undef, undef, undef, undef, undef, undef, undef, undef, undef, undef, undef, undef, undef, undef, undef, undef, undef, undef, undef, undef, undef, undef, undef] ++ [undef, undef, undef, undef, undef, undef, undef, undef, undef, undef, undef, undef, undef, undef, undef, undef, undef, undef, undef, undef, undef, undef]).toArray, []⟩ ∧ At w0 w h_8 ∧ K x60 h_8) H (fun hb_7 H => ?_) (fun hb_7 H => ?_) ?_
              · refine ls_move (x := x35) (by rw [hb_7]; kernel_rfl) (by kernel_rfl) ?_
                refine ls_d (d := some 57) (by kernel_rfl) (by rw [hb_7]; kernel_rfl) HA_8 (d_call (by kernel_rfl) (by kernel_rfl) H) (fun x57 h_27 w_29 H HA_29 => ?_)
                refine ls_p (d := some 58) (by kernel_rfl) (by rw [hb_7]; kernel_rfl) (p_len Try.underlying35 (by kernel_rfl) H) (fun x58 H => ?_)
                refine ls_p (d := some 59) (by kernel_rfl) (by rw [hb_7]; kernel_rfl) (p_sNe (by kernel_rfl) (by kernel_rfl) H) (fun x59 H => ?_)
                refine ls_pick_f (y := x59) (by kernel_rfl) (by rw [hb_7]; kernel_rfl) (by kernel_rfl) ?_
                refine ls_nil ?_
                refine then_normal ?_
                exact ⟨(fun i => ([x35, x57, x58, x59]).getD i undef), x59, h_27, by kernel_rfl, HA_29, H⟩
              · refine ls_skip (d := some 56) (by kernel_rfl) (by rw [hb_7]; kernel_rfl) ?_
                refine ls_skip (d := some 57) (by kernel_rfl) (by rw [hb_7]; kernel_rfl) ?_
                refine ls_skip (d := some 58) (by kernel_rfl) (by rw [hb_7]; kernel_rfl) ?_
                refine ls_skip (d := some 59) (by kernel_rfl) (by rw [hb_7]; kernel_rfl) ?_
                refine ls_pick_t (x := (.bool true)) (by kernel_rfl) (by rw [hb_7]; kernel_rfl) (by kernel_rfl) ?_
                refine ls_nil ?_
                refine then_normal ?_
                exact ⟨(fun i => ([undef, undef, undef, undef]).getD i undef), (.bool true), h_7, by kernel_rfl, HA_8, H⟩
              · rintro _ w_9 ⟨D_3, x60, h_8, rfl, HA_9, H⟩
                refine ls_move (x := x60) (by kernel_rfl) (by kernel_rfl) ?_
                refine ls_orh [(), (), (), (), (), ()] (fun K a w => ∃ (D_4 : Nat → Value) (x67 : Value) (h_9 : Heap), a = ⟨([x0, x1, x2, x3, x4, undef, undef, undef, undef, x9, (.bool false), x35, undef, undef, undef, x0, x16, x16, (D 0), (D 1), x20, x20, (D_1 0), (D_1 1), (D_1 2), (D_1 3), (D_1 4), (D_1 5), (D_1 6), (D_1 7), (D_1 8), x31, undef, x0, x1, x35, x35, x37, x0, x1, x40, x41, x35, x43, undef, x35, x1, x47, x48, x48] ++ [(D_2 0), (D_2 1), (D_2 2), (D_2 3), x54, x54, (D_3 0), (D_3 1), (D_3 2), (D_3 3), x60, x60, (D_4 0), (D_4 1), (D_4 2), (D_4 3), (D_4 4), x67, undef, undef, undef, undef, undef, undef, undef, undef, undef, undef, undef, undef, undef, undef, undef, undef, undef, undef, undef, undef, undef, undef, undef, undef, undef, undef, undef, undef, undef, undef, undef, undef] ++ [undef, undef, undef, undef, undef, undef, undef, undef, undef, undef, undef, undef, undef, undef, undef, undef, undef, undef, undef, undef, undef, undef]).toArray, []⟩ ∧ At w0 w h_9 ∧ K x67 h_9) H (fun hb_6 H => ?_) (fun hb_6 H => ?_) ?_
                · refine ls_move (x := x35) (by rw [hb_6]; kernel_rfl) (by kernel_rfl) ?_
                  refine ls_move (x := x1) (by rw [hb_6]; kernel_rfl) (by kernel_rfl) ?_
                  refine ls_d (d := some 64) (by kernel_rfl) (by rw [hb_6]; kernel_rfl) HA_9 (d_call (by kernel_rfl) (by kernel_rfl) H) (fun x64 h_26 w_28 H HA_28 => ?_)
                  refine ls_p (d := some 65) (by kernel_rfl) (by rw [hb_6]; kernel_rfl) (p_len Try.underlying35 (by kernel_rfl) H) (fun x65 H => ?_)
                  refine ls_p (d := some 66) (by kernel_rfl) (by rw [hb_6]; kernel_rfl) (p_sNe (by kernel_rfl) (by kernel_rfl) H) (fun x66 H => ?_)
                  refine ls_fr (b := ⟨([x0, x1, x2, x3, x4, undef, undef, undef, undef, x9, (.bool false), x35, undef, undef, undef, x0, x16, x16, (D 0), (D 1), x20, x20, (D_1 0), (D_1 1), (D_1 2), (D_1 3), (D_1 4), (D_1 5), (D_1 6), (D_1 7), (D_1 8), x31, undef, x0, x1, x35, x35, x37, x0, x1, x40, x41, x35, x43, undef, x35, x1, x47, x48, x48] ++ [(D_2 0), (D_2 1), (D_2 2), (D_2 3), x54, x54, (D_3 0), (D_3 1), (D_3 2), (D_3 3), x60, x60, x35, x1, x64, x65, x66, undef, undef, undef, undef, undef, undef, undef, undef, undef, undef, undef, undef, undef, undef, undef, undef, undef, undef, undef, undef, undef, undef, undef, undef, undef, undef, undef, undef, undef, undef, undef, undef, undef] ++ [undef, undef, undef, undef, undef, undef, undef, undef, undef, undef, undef, undef, undef, undef, undef, undef, undef, undef, undef, undef, undef, undef]).toArray, []⟩) (by kernel_rfl) ?_
                  refine ls_pick_f (y := x66) (by kernel_rfl) (by rw [hb_6]; kernel_rfl) (by kernel_rfl) ?_
                  refine ls_nil ?_
                  refine then_normal ?_
                  exact ⟨(fun i => ([x35, x1, x64, x65, x66]).getD i undef), x66, h_26, by kernel_rfl, HA_28, H⟩
                · refine ls_skip (d := some 62) (by kernel_rfl) (by rw [hb_6]; kernel_rfl) ?_
                  refine ls_skip (d := some 63) (by kernel_rfl) (by rw [hb_6]; kernel_rfl) ?_
                  refine ls_skip (d := some 64) (by kernel_rfl) (by rw [hb_6]; kernel_rfl) ?_
                  refine ls_skip (d := some 65) (by kernel_rfl) (by rw [hb_6]; kernel_rfl) ?_
                  refine ls_skip (d := some 66) (by kernel_rfl) (by rw [hb_6]; kernel_rfl) ?_
                  refine ls_fr (b := ⟨([x0, x1, x2, x3, x4, undef, undef, undef, undef, x9, (.bool false), x35, undef, undef, undef, x0, x16, x16, (D 0), (D 1), x20, x20, (D_1 0), (D_1 1), (D_1 2), (D_1 3), (D_1 4), (D_1 5), (D_1 6), (D_1 7), (D_1 8), x31, undef, x0, x1, x35, x35, x37, x0, x1, x40, x41, x35, x43, undef, x35, x1, x47, x48, x48] ++ [(D_2 0), (D_2 1), (D_2 2), (D_2 3), x54, x54, (D_3 0), (D_3 1), (D_3 2), (D_3 3), x60, x60, undef, undef, undef, undef, undef, undef, undef, undef, undef, undef, undef, undef, undef, undef, undef, undef, undef, undef, undef, undef, undef, undef, undef, undef, undef, undef, undef, undef, undef, undef, undef, undef, undef, undef, undef, undef, undef, undef] ++ [undef, undef, undef, undef, undef, undef, undef, undef, undef, undef, undef, undef, undef, undef, undef, undef, undef, undef, undef, undef, undef, undef]).toArray, []⟩) (by kernel_rfl) ?_
                  refine ls_pick_t (x := (.bool true)) (by kernel_rfl) (by rw [hb_6]; kernel_rfl) (by kernel_rfl) ?_
                  refine ls_nil ?_
                  refine then_normal ?_
                  exact ⟨(fun i => ([undef, undef, undef, undef, undef]).getD i undef), (.bool true), h_8, by kernel_rfl, HA_9, H⟩
                · rintro _ w_10 ⟨D_4, x67, h_9, rfl, HA_10, H⟩
                  refine ls_move (x := x67) (by kernel_rfl) (by kernel_rfl) ?_
                  refine ls_orh [(), (), (), (), ()] (fun K a w => ∃ (D_5 : Nat → Value) (x73 : Value) (h_10 : Heap), a = ⟨([x0, x1, x2, x3, x4, undef, undef, undef, undef, x9, (.bool false), x35, undef, undef, undef, x0, x16, x16, (D 0), (D 1), x20, x20, (D_1 0), (D_1 1), (D_1 2), (D_1 3), (D_1 4), (D_1 5), (D_1 6), (D_1 7), (D_1 8), x31, undef, x0, x1, x35, x35, x37, x0, x1, x40, x41, x35, x43, undef, x35, x1, x47, x48, x48] ++ [(D_2 0), (D_2 1), (D_2 2), (D_2 3), x54, x54, (D_3 0), (D_3 1), (D_3 2), (D_3 3), x60, x60, (D_4 0), (D_4 1), (D_4 2), (D_4 3), (D_4 4), x67, x67, (D_5 0), (D_5 1), (D_5 2), (D_5 3), x73, undef, undef, undef, undef, undef, undef, undef, undef, undef, undef, undef, undef, undef, undef, undef, undef, undef, undef, undef, undef, undef, undef, undef, undef, undef, undef] ++ [undef, undef, undef, undef, undef, undef, undef, undef, undef, undef, undef, undef, undef, undef, undef, undef, undef, undef, undef, undef, undef, undef]).toArray, []⟩ ∧ At w0 w h_10 ∧ K x73 h_10) H (fun hb_5 H => ?_) (fun hb_5 H => ?_) ?_
                  · refine ls_move (x := x35) (by rw [hb_5]; kernel_rfl) (by kernel_rfl) ?_
                    refine ls_p (d := some 70) (by kernel_rfl) (by rw [hb_5]; kernel_rfl) (p_lit (pl := [(0, 1), (1, 1), (2, 1), (3, 1)]) Try.zeroValue23 Try.underlying23 ⟨(by kernel_rfl), Try.sizeOf3, (by kernel_rfl), Try.sizeOf3, (by kernel_rfl), Try.sizeOf3, (by kernel_rfl), Try.sizeOf3, trivial⟩ (by kernel_rfl) (by kernel_rfl) H) (fun x70 H => ?_)
                    refine ls_d (d := some 71) (by kernel_rfl) (by rw [hb_5]; kernel_rfl) HA_10 (d_call (by kernel_rfl) (by kernel_rfl) H) (fun x71 h_25 w_27 H HA_27 => ?_)
                    refine ls_p (d := some 72) (by kernel_rfl) (by rw [hb_5]; kernel_rfl) (p_sNe (by kernel_rfl) (by kernel_rfl) H) (fun x72 H => ?_)
                    refine ls_pick_f (y := x72) (by kernel_rfl) (by rw [hb_5]; kernel_rfl) (by kernel_rfl) ?_
                    refine ls_nil ?_
                    refine then_normal ?_
                    exact ⟨(fun i => ([x35, x70, x71, x72]).getD i undef), x72, h_25, by kernel_rfl, HA_27, H⟩
                  · refine ls_skip (d := some 69) (by kernel_rfl) (by rw [hb_5]; kernel_rfl) ?_
                    refine ls_skip (d := some 70) (by kernel_rfl) (by rw [hb_5]; kernel_rfl) ?_
                    refine ls_skip (d := some 71) (by kernel_rfl) (by rw [hb_5]; kernel_rfl) ?_
                    refine ls_skip (d := some 72) (by kernel_rfl) (by rw [hb_5]; kernel_rfl) ?_
                    refine ls_pick_t (x := (.bool true)) (by kernel_rfl) (by rw [hb_5]; kernel_rfl) (by kernel_rfl) ?_
                    refine ls_nil ?_
                    refine then_normal ?_
                    exact ⟨(fun i => ([undef, undef, undef, undef]).getD i undef), (.bool true), h_9, by kernel_rfl, HA_10, H⟩
                  · rintro _ w_11 ⟨D_5, x73, h_10, rfl, HA_11, H⟩
                    refine ls_nil ?_
                    refine then_normal ?_
                    refine fr_eq (b := ⟨([x0, x1, x2, x3, x4, undef, undef, undef, undef, x9, (.bool false), x35, undef, undef, undef, x0, x16, x16, (D 0), (D 1), x20, x20, (D_1 0), (D_1 1), (D_1 2), (D_1 3), (D_1 4), (D_1 5), (D_1 6), (D_1 7), (D_1 8), x31, undef, x0, x1, x35, x35, x37, x0, x1, x40, x41, x35, x43, undef, x35, x1, x47, x48, x48] ++ [(D_2 0), (D_2 1), (D_2 2), (D_2 3), x54, x54, (D_3 0), (D_3 1), (D_3 2), (D_3 3), x60, x60, (D_4 0), (D_4 1), (D_4 2), (D_4 3), (D_4 4), x67, x67, (D_5 0), (D_5 1), (D_5 2), (D_5 3), x73, undef, undef, undef, undef, undef, undef, undef, undef, undef, undef, undef, undef, undef, undef, undef, undef, undef, undef, undef, undef, undef, undef, undef, undef, undef, undef] ++ [undef, undef, undef, undef, undef, undef, undef, undef, undef, undef, undef, undef, undef, undef, undef, undef, undef, undef, undef, undef, undef, undef]).toArray, []⟩) (by kernel_rfl) ?_
                    refine wp_if rfl H (fun H => ?_) (fun H => ?_)
                    · refine wp_seq ?_
                      refine lwp_list ?_
                      refine ls_assign (x := (.bool false)) (by kernel_rfl) (by kernel_rfl) ?_
                      refine ls_nil ?_
                      refine then_normal ?_
                      refine fr_eq (b := ⟨([x0, x1, x2, x3, x4, undef, undef, undef, undef, x9, (.bool false), x35, undef, undef, undef, x0, x16, x16, (D 0), (D 1), x20, x20, (D_1 0), (D_1 1), (D_1 2), (D_1 3), (D_1 4), (D_1 5), (D_1 6), (D_1 7), (D_1 8), x31, undef, x0, x1, x35, x35, x37, x0, x1, x40, x41, x35, x43, undef, x35, x1, x47, x48, x48] ++ [(D_2 0), (D_2 1), (D_2 2), (D_2 3), x54, x54, (D_3 0), (D_3 1), (D_3 2), (D_3 3), x60, x60, (D_4 0), (D_4 1), (D_4 2), (D_4 3), (D_4 4), x67, x67, (D_5 0), (D_5 1), (D_5 2), (D_5 3), x73, undef, undef, undef, undef, undef, undef, undef, undef, undef, undef, undef, undef, undef, undef, undef, undef, undef, undef, undef, undef, undef, undef, undef, undef, undef, undef] ++ [undef, undef, undef, undef, undef, undef, undef, undef, undef, undef, undef, undef, undef, undef, undef, undef, undef, undef, undef, undef, undef, undef]).toArray, []⟩) (by kernel_rfl) ?_
                      refine wp_ret ?_
                      refine then_ret ?_
                      exact end1 (Try.results6) (by kernel_rfl) (by kernel_rfl) HA_11 H _ (.inr rfl)
                    · refine wp_skip ?_
                      refine then_normal ?_
                      refine fr_eq (b := ⟨([x0, x1, x2, x3, x4, undef, undef, undef, undef, x9, (.bool false), x35, undef, undef, undef, x0, x16, x16, (D 0), (D 1), x20, x20, (D_1 0), (D_1 1), (D_1 2), (D_1 3), (D_1 4), (D_1 5), (D_1 6), (D_1 7), (D_1 8), x31, undef, x0, x1, x35, x35, x37, x0, x1, x40, x41, x35, x43, undef, x35, x1, x47, x48, x48] ++ [(D_2 0), (D_2 1), (D_2 2), (D_2 3), x54, x54, (D_3 0), (D_3 1), (D_3 2), (D_3 3), x60, x60, (D_4 0), (D_4 1), (D_4 2), (D_4 3), (D_4 4), x67, x67, (D_5 0), (D_5 1), (D_5 2), (D_5 3), x73, undef, undef, undef, undef, undef, undef, undef, undef, undef, undef, undef, undef, undef, undef, undef, undef, undef, undef, undef, undef, undef, undef, undef, undef, undef, undef] ++ [undef, undef, undef, undef, undef, undef, undef, undef, undef, undef, undef, undef, undef, undef, undef, undef, undef, undef, undef, undef, undef, undef]).toArray, []⟩) (by kernel_rfl) ?_
                      refine wp_seq ?_
                      refine lwp_list ?_
                      refine ls_move (x := x35) (by kernel_rfl) (by kernel_rfl) ?_
                      refine ls_d (d := some 75) (by kernel_rfl) (by kernel_rfl) HA_11 (d_call (by kernel_rfl) (by kernel_rfl) H) (fun x75 h_11 w_12 H HA_12 => ?_)
                      refine ls_assign (x := x75) (by kernel_rfl) (by kernel_rfl) ?_
                      refine ls_nil ?_
                      refine then_normal ?_
                      refine fr_eq (b := ⟨([x0, x1, x2, x3, x4, undef, undef, undef, undef, x9, (.bool false), x35, x75, undef, undef, x0, x16, x16, (D 0), (D 1), x20, x20, (D_1 0), (D_1 1), (D_1 2), (D_1 3), (D_1 4), (D_1 5), (D_1 6), (D_1 7), (D_1 8), x31, undef, x0, x1, x35, x35, x37, x0, x1, x40, x41, x35, x43, undef, x35, x1, x47, x48, x48] ++ [(D_2 0), (D_2 1), (D_2 2), (D_2 3), x54, x54, (D_3 0), (D_3 1), (D_3 2), (D_3 3), x60, x60, (D_4 0), (D_4 1), (D_4 2), (D_4 3), (D_4 4), x67, x67, (D_5 0), (D_5 1), (D_5 2), (D_5 3), x73, x35, x75, undef, undef, undef, undef, undef, undef, undef, undef, undef, undef, undef, undef, undef, undef, undef, undef, undef, undef, undef, undef, undef, undef, undef, undef] ++ [undef, undef, undef, undef, undef, undef, undef, undef, undef, undef, undef, undef, undef, undef, undef, undef, undef, undef, undef, undef, undef, undef]).toArray, []⟩) (by kernel_rfl) ?_
                      refine wp_seq ?_
                      refine wp_seq ?_
                      refine lwp_list ?_
                      refine ls_move (x := x35) (by kernel_rfl) (by kernel_rfl) ?_
                      refine ls_move (x := x75) (by kernel_rfl) (by kernel_rfl) ?_
                      refine ls_d (d := some 78) (by kernel_rfl) (by kernel_rfl) HA_12 (d_call (by kernel_rfl) (by kernel_rfl) H) (fun x78 h_12 w_13 H HA_13 => ?_)
                      refine ls_p (d := some 79) (by kernel_rfl) (by kernel_rfl) (p_not (by kernel_rfl) H) (fun x79 H => ?_)
                      refine ls_move (x := x79) (by kernel_rfl) (by kernel_rfl) ?_
                      refine ls_orh [(), (), ()] (fun K a w => ∃ (D_6 : Nat → Value) (x83 : Value) (h_13 : Heap), a = ⟨([x0, x1, x2, x3, x4, undef, undef, undef, undef, x9, (.bool false), x35, x75, undef, undef, x0, x16, x16, (D 0), (D 1), x20, x20, (D_1 0), (D_1 1), (D_1 2), (D_1 3), (D_1 4), (D_1 5), (D_1 6), (D_1 7), (D_1 8), x31, undef, x0, x1, x35, x35, x37, x0, x1, x40, x41, x35, x43, undef, x35, x1, x47, x48, x48] ++ [(D_2 0), (D_2 1), (D_2 2), (D_2 3), x54, x54, (D_3 0), (D_3 1), (D_3 2), (D_3 3), x60, x60, (D_4 0), (D_4 1), (D_4 2), (D_4 3), (D_4 4), x67, x67, (D_5 0), (D_5 1), (D_5 2), (D_5 3), x73, x35, x75, x35, x75, x78, x79, x79, (D_6 0), (D_6 1), x83, undef, undef, undef, undef, undef, undef, undef, undef, undef, undef, undef, undef, undef, undef, undef, undef] ++ [undef, undef, undef, undef, undef, undef, undef, undef, undef, undef, undef, undef, undef, undef, undef, undef, undef, undef, undef, undef, undef, undef]).toArray, []⟩ ∧ At w0 w h_13 ∧ K x83 h_13) H (fun hb_4 H => ?_) (fun hb_4 H => ?_) ?_
                      · refine ls_move (x := x35) (by rw [hb_4]; kernel_rfl) (by kernel_rfl) ?_
                        refine ls_fr (b := ⟨([x0, x1, x2, x3, x4, undef, undef, undef, undef, x9, (.bool false), x35, x75, undef, undef, x0, x16, x16, (D 0), (D 1), x20, x20, (D_1 0), (D_1 1), (D_1 2), (D_1 3), (D_1 4), (D_1 5), (D_1 6), (D_1 7), (D_1 8), x31, undef, x0, x1, x35, x35, x37, x0, x1, x40, x41, x35, x43, undef, x35, x1, x47, x48, x48] ++ [(D_2 0), (D_2 1), (D_2 2), (D_2 3), x54, x54, (D_3 0), (D_3 1), (D_3 2), (D_3 3), x60, x60, (D_4 0), (D_4 1), (D_4 2), (D_4 3), (D_4 4), x67, x67, (D_5 0), (D_5 1), (D_5 2), (D_5 3), x73, x35, x75, x35, x75, x78, x79, x79, x35, undef, undef, undef, undef, undef, undef, undef, undef, undef, undef, undef, undef, undef, undef, undef, undef, undef, undef] ++ [undef, undef, undef, undef, undef, undef, undef, undef, undef, undef, undef, undef, undef, undef, undef, undef, undef, undef, undef, undef, undef, undef]).toArray, []⟩) (by kernel_rfl) ?_
                        refine ls_d (d := some 82) (by kernel_rfl) (by rw [hb_4]; kernel_rfl) HA_13 (d_call (by kernel_rfl) (by kernel_rfl) H) (fun x82 h_24 w_26 H HA_26 => ?_)
                        refine ls_pick_f (y := x82) (by kernel_rfl) (by rw [hb_4]; kernel_rfl) (by kernel_rfl) ?_
                        refine ls_nil ?_
                        refine then_normal ?_
                        exact ⟨(fun i => ([x35, x82]).getD i undef), x82, h_24, by kernel_rfl, HA_26, H⟩
                      · refine ls_skip (d := some 81) (by kernel_rfl) (by rw [hb_4]; kernel_rfl) ?_
                        refine ls_fr (b := ⟨([x0, x1, x2, x3, x4, undef, undef, undef, undef, x9, (.bool false), x35, x75, undef, undef, x0, x16, x16, (D 0), (D 1), x20, x20, (D_1 0), (D_1 1), (D_1 2), (D_1 3), (D_1 4), (D_1 5), (D_1 6), (D_1 7), (D_1 8), x31, undef, x0, x1, x35, x35, x37, x0, x1, x40, x41, x35, x43, undef, x35, x1, x47, x48, x48] ++ [(D_2 0), (D_2 1), (D_2 2), (D_2 3), x54, x54, (D_3 0), (D_3 1), (D_3 2), (D_3 3), x60, x60, (D_4 0), (D_4 1), (D_4 2), (D_4 3), (D_4 4), x67, x67, (D_5 0), (D_5 1), (D_5 2), (D_5 3), x73, x35, x75, x35, x75, x78, x79, x79, undef, undef, undef, undef, undef, undef, undef, undef, undef, undef, undef, undef, undef, undef, undef, undef, undef, undef, undef] ++ [undef, undef, undef, undef, undef, undef, undef, undef, undef, undef, undef, undef, undef, undef, undef, undef, undef, undef, undef, undef, undef, undef]).toArray, []⟩) (by kernel_rfl) ?_
                        refine ls_skip (d := some 82) (by kernel_rfl) (by rw [hb_4]; kernel_rfl) ?_
                        refine ls_pick_t (x := (.bool true)) (by kernel_rfl) (by rw [hb_4]; kernel_rfl) (by kernel_rfl) ?_
                        refine ls_nil ?_
                        refine then_normal ?_
                        exact ⟨(fun i => ([undef, undef]).getD i undef), (.bool true), h_12, by kernel_rfl, HA_13, H⟩
                      · rintro _ w_14 ⟨D_6, x83, h_13, rfl, HA_14, H⟩
                        refine ls_nil ?_
                        refine then_normal ?_
                        refine fr_eq (b := ⟨([x0, x1, x2, x3, x4, undef, undef, undef, undef, x9, (.bool false), x35, x75, undef, undef, x0, x16, x16, (D 0), (D 1), x20, x20, (D_1 0), (D_1 1), (D_1 2), (D_1 3), (D_1 4), (D_1 5), (D_1 6), (D_1 7), (D_1 8), x31, undef, x0, x1, x35, x35, x37, x0, x1, x40, x41, x35, x43, undef, x35, x1, x47, x48, x48] ++ [(D_2 0), (D_2 1), (D_2 2), (D_2 3), x54, x54, (D_3 0), (D_3 1), (D_3 2), (D_3 3), x60, x60, (D_4 0), (D_4 1), (D_4 2), (D_4 3), (D_4 4), x67, x67, (D_5 0), (D_5 1), (D_5 2), (D_5 3), x73, x35, x75, x35, x75, x78, x79, x79, (D_6 0), (D_6 1), x83, undef, undef, undef, undef, undef, undef, undef, undef, undef, undef, undef, undef, undef, undef, undef, undef] ++ [undef, undef, undef, undef, undef, undef, undef, undef, undef, undef, undef, undef, undef, undef, undef, undef, undef, undef, undef, undef, undef, undef]).toArray, []⟩) (by kernel_rfl) ?_
                        refine wp_if rfl H (fun H => ?_) (fun H => ?_)
                        · refine wp_seq ?_
                          refine lwp_list ?_
                          refine ls_assign (x := (.bool false)) (by kernel_rfl) (by kernel_rfl) ?_
                          refine ls_nil ?_
                          refine then_normal ?_
                          refine fr_eq (b := ⟨([x0, x1, x2, x3, x4, undef, undef, undef, undef, x9, (.bool false), x35, x75, undef, undef, x0, x16, x16, (D 0), (D 1), x20, x20, (D_1 0), (D_1 1), (D_1 2), (D_1 3), (D_1 4), (D_1 5), (D_1 6), (D_1 7), (D_1 8), x31, undef, x0, x1, x35, x35, x37, x0, x1, x40, x41, x35, x43, undef, x35, x1, x47, x48, x48] ++ [(D_2 0), (D_2 1), (D_2 2), (D_2 3), x54, x54, (D_3 0), (D_3 1), (D_3 2), (D_3 3), x60, x60, (D_4 0), (D_4 1), (D_4 2), (D_4 3), (D_4 4), x67, x67, (D_5 0), (D_5 1), (D_5 2), (D_5 3), x73, x35, x75, x35, x75, x78, x79, x79, (D_6 0), (D_6 1), x83, undef, undef, undef, undef, undef, undef, undef, undef, undef, undef, undef, undef, undef, undef, undef, undef] ++ [undef, undef, undef, undef, undef, undef, undef, undef, undef, undef, undef, undef, undef, undef, undef, undef, undef, undef, undef, undef, undef, undef]).toArray, []⟩) (by kernel_rfl) ?_
                          refine wp_ret ?_
                          refine then_ret ?_
                          exact end1 (Try.results6) (by kernel_rfl) (by kernel_rfl) HA_14 H _ (.inr rfl)
                        · refine wp_skip ?_
                          refine then_normal ?_
                          refine fr_eq (b := ⟨([x0, x1, x2, x3, x4, undef, undef, undef, undef, x9, (.bool false), x35, x75, undef, undef, x0, x16, x16, (D 0), (D 1), x20, x20, (D_1 0), (D_1 1), (D_1 2), (D_1 3), (D_1 4), (D_1 5), (D_1 6), (D_1 7), (D_1 8), x31, undef, x0, x1, x35, x35, x37, x0, x1, x40, x41, x35, x43, undef, x35, x1, x47, x48, x48] ++ [(D_2 0), (D_2 1), (D_2 2), (D_2 3), x54, x54, (D_3 0), (D_3 1), (D_3 2), (D_3 3), x60, x60, (D_4 0), (D_4 1), (D_4 2), (D_4 3), (D_4 4), x67, x67, (D_5 0), (D_5 1), (D_5 2), (D_5 3), x73, x35, x75, x35, x75, x78, x79, x79, (D_6 0), (D_6 1), x83, undef, undef, undef, undef, undef, undef, undef, undef, undef, undef, undef, undef, undef, undef, undef, undef] ++ [undef, undef, undef, undef, undef, undef, undef, undef, undef, undef, undef, undef, undef, undef, undef, undef, undef, undef, undef, undef, undef, undef]).toArray, []⟩) (by kernel_rfl) ?_
                          refine wp_seq ?_
                          refine lwp_list ?_
                          refine ls_move (x := x75) (by kernel_rfl) (by kernel_rfl) ?_
                          refine ls_move (x := x2) (by kernel_rfl) (by kernel_rfl) ?_
                          refine ls_move (x := x3) (by kernel_rfl) (by kernel_rfl) ?_
                          refine ls_y (d := some 87) (by kernel_rfl) (by kernel_rfl) HA_14 (y_ldn Try.isAgg27 Try.sizeOf27 (by kernel_rfl) H) (fun x87 H => ?_)
                          refine ls_d (d := some 88) (by kernel_rfl) (by kernel_rfl) HA_14 (d_call (by kernel_rfl) (by kernel_rfl) H) (fun x88 h_14 w_15 H HA_15 => ?_)
                          refine ls_assign (x := x88) (by kernel_rfl) (by kernel_rfl) ?_
                          refine ls_nil ?_
                          refine then_normal ?_
                          refine fr_eq (b := ⟨([x0, x1, x2, x3, x4, undef, undef, undef, undef, x9, (.bool false), x35, x75, x88, undef, x0, x16, x16, (D 0), (D 1), x20, x20, (D_1 0), (D_1 1), (D_1 2), (D_1 3), (D_1 4), (D_1 5), (D_1 6), (D_1 7), (D_1 8), x31, undef, x0, x1, x35, x35, x37, x0, x1, x40, x41, x35, x43, undef, x35, x1, x47, x48, x48] ++ [(D_2 0), (D_2 1), (D_2 2), (D_2 3), x54, x54, (D_3 0), (D_3 1), (D_3 2), (D_3 3), x60, x60, (D_4 0), (D_4 1), (D_4 2), (D_4 3), (D_4 4), x67, x67, (D_5 0), (D_5 1), (D_5 2), (D_5 3), x73, x35, x75, x35, x75, x78, x79, x79, (D_6 0), (D_6 1), x83, x75, x2, x3, x87, x88, undef, undef, undef, undef, undef, undef, undef, undef, undef, undef, undef] ++ [undef, undef, undef, undef, undef, undef, undef, undef, undef, undef, undef, undef, undef, undef, undef, undef, undef, undef, undef, undef, undef, undef]).toArray, []⟩) (by kernel_rfl) ?_
                          refine wp_seq ?_
                          refine lwp_list ?_
                          refine ls_move (x := x35) (by kernel_rfl) (by kernel_rfl) ?_
                          refine ls_d (d := some 90) (by kernel_rfl) (by kernel_rfl) HA_15 (d_call (by kernel_rfl) (by kernel_rfl) H) (fun x90 h_15 w_16 H HA_16 => ?_)
                          refine ls_assign (x := x90) (by kernel_rfl) (by kernel_rfl) ?_
                          refine ls_nil ?_
                          refine then_normal ?_
                          refine fr_eq (b := ⟨([x0, x1, x2, x3, x4, undef, undef, undef, undef, x9, (.bool false), x35, x75, x88, x90, x0, x16, x16, (D 0), (D 1), x20, x20, (D_1 0), (D_1 1), (D_1 2), (D_1 3), (D_1 4), (D_1 5), (D_1 6), (D_1 7), (D_1 8), x31, undef, x0, x1, x35, x35, x37, x0, x1, x40, x41, x35, x43, undef, x35, x1, x47, x48, x48] ++ [(D_2 0), (D_2 1), (D_2 2), (D_2 3), x54, x54, (D_3 0), (D_3 1), (D_3 2), (D_3 3), x60, x60, (D_4 0), (D_4 1), (D_4 2), (D_4 3), (D_4 4), x67, x67, (D_5 0), (D_5 1), (D_5 2), (D_5 3), x73, x35, x75, x35, x75, x78, x79, x79, (D_6 0), (D_6 1), x83, x75, x2, x3, x87, x88, x35, x90, undef, undef, undef, undef, undef, undef, undef, undef, undef] ++ [undef, undef, undef, undef, undef, undef, undef, undef, undef, undef, undef, undef, undef, undef, undef, undef, undef, undef, undef, undef, undef, undef]).toArray, []⟩) (by kernel_rfl) ?_
                          refine wp_seq ?_
                          refine lwp_list ?_
                          refine ls_move (x := x90) (by kernel_rfl) (by kernel_rfl) ?_
                          refine ls_p (d := some 92) (by kernel_rfl) (by kernel_rfl) (p_ixs Try.underlying35 Try.sizeOf27 (by kernel_rfl) (by kernel_rfl) H) (fun x92 H => ?_)
                          refine ls_p (d := some 93) (by kernel_rfl) (by kernel_rfl) (p_off Try.underlying27 rfl (fun w => ⟨_, Try.sizeOf21 w⟩) rfl (by kernel_rfl) H) (fun x93 H => ?_)
                          refine ls_d (d := none) (by kernel_rfl) (by kernel_rfl) HA_16 (d_st Try.sizeOf21 (by kernel_rfl) (by kernel_rfl) H) (fun _ h_16 w_17 H HA_17 => ?_)
                          refine ls_nil ?_
                          refine then_normal ?_
                          refine fr_eq (b := ⟨([x0, x1, x2, x3, x4, undef, undef, undef, undef, x9, (.bool false), x35, x75, x88, x90, x0, x16, x16, (D 0), (D 1), x20, x20, (D_1 0), (D_1 1), (D_1 2), (D_1 3), (D_1 4), (D_1 5), (D_1 6), (D_1 7), (D_1 8), x31, undef, x0, x1, x35, x35, x37, x0, x1, x40, x41, x35, x43, undef, x35, x1, x47, x48, x48] ++ [(D_2 0), (D_2 1), (D_2 2), (D_2 3), x54, x54, (D_3 0), (D_3 1), (D_3 2), (D_3 3), x60, x60, (D_4 0), (D_4 1), (D_4 2), (D_4 3), (D_4 4), x67, x67, (D_5 0), (D_5 1), (D_5 2), (D_5 3), x73, x35, x75, x35, x75, x78, x79, x79, (D_6 0), (D_6 1), x83, x75, x2, x3, x87, x88, x35, x90, x90, x92, x93, undef, undef, undef, undef, undef, undef] ++ [undef, undef, undef, undef, undef, undef, undef, undef, undef, undef, undef, undef, undef, undef, undef, undef, undef, undef, undef, undef, undef, undef]).toArray, []⟩) (by kernel_rfl) ?_
                          refine wp_seq ?_
                          refine lwp_list ?_
                          refine ls_move (x := x35) (by kernel_rfl) (by kernel_rfl) ?_
                          refine ls_move (x := x75) (by kernel_rfl) (by kernel_rfl) ?_
                          refine ls_d (d := some 96) (by kernel_rfl) (by kernel_rfl) HA_17 (d_call (by kernel_rfl) (by kernel_rfl) H) (fun x96 h_17 w_18 H HA_18 => ?_)
                          refine ls_move (x := x88) (by kernel_rfl) (by kernel_rfl) ?_
                          refine ls_p (d := some 98) (by kernel_rfl) (by kernel_rfl) (p_not (by kernel_rfl) H) (fun x98 H => ?_)
                          refine ls_move (x := x98) (by kernel_rfl) (by kernel_rfl) ?_
                          refine ls_fr (b := ⟨([x0, x1, x2, x3, x4, undef, undef, undef, undef, x9, (.bool false), x35, x75, x88, x90, x0, x16, x16, (D 0), (D 1), x20, x20, (D_1 0), (D_1 1), (D_1 2), (D_1 3), (D_1 4), (D_1 5), (D_1 6), (D_1 7), (D_1 8), x31, undef, x0, x1, x35, x35, x37, x0, x1, x40, x41, x35, x43, undef, x35, x1, x47, x48, x48] ++ [(D_2 0), (D_2 1), (D_2 2), (D_2 3), x54, x54, (D_3 0), (D_3 1), (D_3 2), (D_3 3), x60, x60, (D_4 0), (D_4 1), (D_4 2), (D_4 3), (D_4 4), x67, x67, (D_5 0), (D_5 1), (D_5 2), (D_5 3), x73, x35, x75, x35, x75, x78, x79, x79, (D_6 0), (D_6 1), x83, x75, x2, x3, x87, x88, x35, x90, x90, x92, x93, x35, x75, x96, x88, x98, x98] ++ [undef, undef, undef, undef, undef, undef, undef, undef, undef, undef, undef, undef, undef, undef, undef, undef, undef, undef, undef, undef, undef, undef]).toArray, []⟩) (by kernel_rfl) ?_
                          refine ls_or [(), (), (), ()] (fun K a w => ∃ (D_7 : Nat → Value) (x103 : Value), a = ⟨([x0, x1, x2, x3, x4, undef, undef, undef, undef, x9, (.bool false), x35, x75, x88, x90, x0, x16, x16, (D 0), (D 1), x20, x20, (D_1 0), (D_1 1), (D_1 2), (D_1 3), (D_1 4), (D_1 5), (D_1 6), (D_1 7), (D_1 8), x31, undef, x0, x1, x35, x35, x37, x0, x1, x40, x41, x35, x43, undef, x35, x1, x47, x48, x48] ++ [(D_2 0), (D_2 1), (D_2 2), (D_2 3), x54, x54, (D_3 0), (D_3 1), (D_3 2), (D_3 3), x60, x60, (D_4 0), (D_4 1), (D_4 2), (D_4 3), (D_4 4), x67, x67, (D_5 0), (D_5 1), (D_5 2), (D_5 3), x73, x35, x75, x35, x75, x78, x79, x79, (D_6 0), (D_6 1), x83, x75, x2, x3, x87, x88, x35, x90, x90, x92, x93, x35, x75, x96, x88, x98, x98] ++ [(D_7 0), (D_7 1), (D_7 2), x103, undef, undef, undef, undef, undef, undef, undef, undef, undef, undef, undef, undef, undef, undef, undef, undef, undef, undef]).toArray, []⟩ ∧ At w0 w h_17 ∧ K x103) H (fun hb_3 H => ?_) (fun hb_3 H => ?_) ?_
                          · refine ls_y (d := some 100) (by kernel_rfl) (by rw [hb_3]; kernel_rfl) HA_18 (y_ldn Try.isAgg27 Try.sizeOf27 (by kernel_rfl) H) (fun x100 H => ?_)
                            refine ls_p (d := some 101) (by kernel_rfl) (by rw [hb_3]; kernel_rfl) (p_lit (pl := [(0, 1), (1, 3)]) Try.zeroValue27 Try.underlying27 ⟨(by kernel_rfl), Try.sizeOf21, (by kernel_rfl), Try.sizeOf25, trivial⟩ (by kernel_rfl) (by kernel_rfl) H) (fun x101 H => ?_)
                            refine ls_p (d := some 102) (by kernel_rfl) (by rw [hb_3]; kernel_rfl) (p_eqlAgg (eqT_27) (by kernel_rfl) (by kernel_rfl) H) (fun x102 H => ?_)
                            refine ls_pick_f (y := x102) (by kernel_rfl) (by rw [hb_3]; kernel_rfl) (by kernel_rfl) ?_
                            refine ls_nil ?_
                            refine then_normal ?_
                            exact ⟨(fun i => ([x100, x101, x102]).getD i undef), x102, by kernel_rfl, HA_18, H⟩
                          · refine ls_skip (d := some 100) (by kernel_rfl) (by rw [hb_3]; kernel_rfl) ?_
                            refine ls_skip (d := some 101) (by kernel_rfl) (by rw [hb_3]; kernel_rfl) ?_
                            refine ls_skip (d := some 102) (by kernel_rfl) (by rw [hb_3]; kernel_rfl) ?_
                            refine ls_pick_t (x := (.bool true)) (by kernel_rfl) (by rw [hb_3]; kernel_rfl) (by kernel_rfl) ?_
                            refine ls_nil ?_
                            refine then_normal ?_
                            exact ⟨(fun i => ([undef, undef, undef]).getD i undef), (.bool true), by kernel_rfl, HA_18, H⟩
                          · rintro _ w_19 ⟨D_7, x103, rfl, HA_19, H⟩
                            refine ls_p (d := some 104) (by kernel_rfl) (by kernel_rfl) (p_eqlB Try.underlying4 (by kernel_rfl) (by kernel_rfl) H) (fun x104 H => ?_)
                            refine ls_move (x := x104) (by kernel_rfl) (by kernel_rfl) ?_
                            refine ls_andh [(), (), (), (), (), (), ()] (fun K a w => ∃ (D_8 : Nat → Value) (x112 : Value) (h_18 : Heap), a = ⟨([x0, x1, x2, x3, x4, undef, undef, undef, undef, x9, (.bool false), x35, x75, x88, x90, x0, x16, x16, (D 0), (D 1), x20, x20, (D_1 0), (D_1 1), (D_1 2), (D_1 3), (D_1 4), (D_1 5), (D_1 6), (D_1 7), (D_1 8), x31, undef, x0, x1, x35, x35, x37, x0, x1, x40, x41, x35, x43, undef, x35, x1, x47, x48, x48] ++ [(D_2 0), (D_2 1), (D_2 2), (D_2 3), x54, x54, (D_3 0), (D_3 1), (D_3 2), (D_3 3), x60, x60, (D_4 0), (D_4 1), (D_4 2), (D_4 3), (D_4 4), x67, x67, (D_5 0), (D_5 1), (D_5 2), (D_5 3), x73, x35, x75, x35, x75, x78, x79, x79, (D_6 0), (D_6 1), x83, x75, x2, x3, x87, x88, x35, x90, x90, x92, x93, x35, x75, x96, x88, x98, x98] ++ [(D_7 0), (D_7 1), (D_7 2), x103, x104, x104, (D_8 0), (D_8 1), (D_8 2), (D_8 3), (D_8 4), (D_8 5), x112, undef, undef, undef, undef, undef, undef, undef, undef, undef]).toArray, []⟩ ∧ At w0 w h_18 ∧ K x112 h_18) H (fun hb_2 H => ?_) (fun hb_2 H => ?_) ?_
                            · refine ls_move (x := x35) (by rw [hb_2]; kernel_rfl) (by kernel_rfl) ?_
                              refine ls_move (x := x2) (by rw [hb_2]; kernel_rfl) (by kernel_rfl) ?_
                              refine ls_move (x := x3) (by rw [hb_2]; kernel_rfl) (by kernel_rfl) ?_
                              refine ls_d (d := some 109) (by kernel_rfl) (by rw [hb_2]; kernel_rfl) HA_19 (d_call (by kernel_rfl) (by kernel_rfl) H) (fun x109 h_23 w_25 H HA_25 => ?_)
                              refine ls_fr (b := ⟨([x0, x1, x2, x3, x4, undef, undef, undef, undef, x9, (.bool false), x35, x75, x88, x90, x0, x16, x16, (D 0), (D 1), x20, x20, (D_1 0), (D_1 1), (D_1 2), (D_1 3), (D_1 4), (D_1 5), (D_1 6), (D_1 7), (D_1 8), x31, undef, x0, x1, x35, x35, x37, x0, x1, x40, x41, x35, x43, undef, x35, x1, x47, x48, x48] ++ [(D_2 0), (D_2 1), (D_2 2), (D_2 3), x54, x54, (D_3 0), (D_3 1), (D_3 2), (D_3 3), x60, x60, (D_4 0), (D_4 1), (D_4 2), (D_4 3), (D_4 4), x67, x67, (D_5 0), (D_5 1), (D_5 2), (D_5 3), x73, x35, x75, x35, x75, x78, x79, x79, (D_6 0), (D_6 1), x83, x75, x2, x3, x87, x88, x35, x90, x90, x92, x93, x35, x75, x96, x88, x98, x98] ++ [(D_7 0), (D_7 1), (D_7 2), x103, x104, x104, x35, x2, x3, x109, undef, undef, undef, undef, undef, undef, undef, undef, undef, undef, undef, undef]).toArray, []⟩) (by kernel_rfl) ?_
                              refine ls_p (d := some 110) (by kernel_rfl) (by rw [hb_2]; kernel_rfl) (p_lit (pl := [(0, 1), (1, 3)]) Try.zeroValue27 Try.underlying27 ⟨(by kernel_rfl), Try.sizeOf21, (by kernel_rfl), Try.sizeOf25, trivial⟩ (by kernel_rfl) (by kernel_rfl) H) (fun x110 H => ?_)
                              refine ls_p (d := some 111) (by kernel_rfl) (by rw [hb_2]; kernel_rfl) (p_eqlAgg (eqT_27) (by kernel_rfl) (by kernel_rfl) H) (fun x111 H => ?_)
                              refine ls_pick_t (x := x111) (by kernel_rfl) (by rw [hb_2]; kernel_rfl) (by kernel_rfl) ?_
                              refine ls_nil ?_
                              refine then_normal ?_
                              exact ⟨(fun i => ([x35, x2, x3, x109, x110, x111]).getD i undef), x111, h_23, by kernel_rfl, HA_25, H⟩
                            · refine ls_skip (d := some 106) (by kernel_rfl) (by rw [hb_2]; kernel_rfl) ?_
                              refine ls_skip (d := some 107) (by kernel_rfl) (by rw [hb_2]; kernel_rfl) ?_
                              refine ls_skip (d := some 108) (by kernel_rfl) (by rw [hb_2]; kernel_rfl) ?_
                              refine ls_skip (d := some 109) (by kernel_rfl) (by rw [hb_2]; kernel_rfl) ?_
                              refine ls_fr (b := ⟨([x0, x1, x2, x3, x4, undef, undef, undef, undef, x9, (.bool false), x35, x75, x88, x90, x0, x16, x16, (D 0), (D 1), x20, x20, (D_1 0), (D_1 1), (D_1 2), (D_1 3), (D_1 4), (D_1 5), (D_1 6), (D_1 7), (D_1 8), x31, undef, x0, x1, x35, x35, x37, x0, x1, x40, x41, x35, x43, undef, x35, x1, x47, x48, x48] ++ [(D_2 0), (D_2 1), (D_2 2), (D_2 3), x54, x54, (D_3 0), (D_3 1), (D_3 2), (D_3 3), x60, x60, (D_4 0), (D_4 1), (D_4 2), (D_4 3), (D_4 4), x67, x67, (D_5 0), (D_5 1), (D_5 2), (D_5 3), x73, x35, x75, x35, x75, x78, x79, x79, (D_6 0), (D_6 1), x83, x75, x2, x3, x87, x88, x35, x90, x90, x92, x93, x35, x75, x96, x88, x98, x98] ++ [(D_7 0), (D_7 1), (D_7 2), x103, x104, x104, undef, undef, undef, undef, undef, undef, undef, undef, undef, undef, undef, undef, undef, undef, undef, undef]).toArray, []⟩) (by kernel_rfl) ?_
                              refine ls_skip (d := some 110) (by kernel_rfl) (by rw [hb_2]; kernel_rfl) ?_
                              refine ls_skip (d := some 111) (by kernel_rfl) (by rw [hb_2]; kernel_rfl) ?_
                              refine ls_pick_f (y := (.bool false)) (by kernel_rfl) (by rw [hb_2]; kernel_rfl) (by kernel_rfl) ?_
                              refine ls_nil ?_
                              refine then_normal ?_
                              exact ⟨(fun i => ([undef, undef, undef, undef, undef, undef]).getD i undef), (.bool false), h_17, by kernel_rfl, HA_19, H⟩
                            · rintro _ w_20 ⟨D_8, x112, h_18, rfl, HA_20, H⟩
                              refine ls_move (x := x112) (by kernel_rfl) (by kernel_rfl) ?_
                              refine ls_andh [(), (), (), (), ()] (fun K a w => ∃ (D_9 : Nat → Value) (x118 : Value) (h_19 : Heap), a = ⟨([x0, x1, x2, x3, x4, undef, undef, undef, undef, x9, (.bool false), x35, x75, x88, x90, x0, x16, x16, (D 0), (D 1), x20, x20, (D_1 0), (D_1 1), (D_1 2), (D_1 3), (D_1 4), (D_1 5), (D_1 6), (D_1 7), (D_1 8), x31, undef, x0, x1, x35, x35, x37, x0, x1, x40, x41, x35, x43, undef, x35, x1, x47, x48, x48] ++ [(D_2 0), (D_2 1), (D_2 2), (D_2 3), x54, x54, (D_3 0), (D_3 1), (D_3 2), (D_3 3), x60, x60, (D_4 0), (D_4 1), (D_4 2), (D_4 3), (D_4 4), x67, x67, (D_5 0), (D_5 1), (D_5 2), (D_5 3), x73, x35, x75, x35, x75, x78, x79, x79, (D_6 0), (D_6 1), x83, x75, x2, x3, x87, x88, x35, x90, x90, x92, x93, x35, x75, x96, x88, x98, x98] ++ [(D_7 0), (D_7 1), (D_7 2), x103, x104, x104, (D_8 0), (D_8 1), (D_8 2), (D_8 3), (D_8 4), (D_8 5), x112, x112, (D_9 0), (D_9 1), (D_9 2), (D_9 3), x118, undef, undef, undef]).toArray, []⟩ ∧ At w0 w h_19 ∧ K x118 h_19) H (fun hb_1 H => ?_) (fun hb_1 H => ?_) ?_
                              · refine ls_move (x := x35) (by rw [hb_1]; kernel_rfl) (by kernel_rfl) ?_
                                refine ls_d (d := some 115) (by kernel_rfl) (by rw [hb_1]; kernel_rfl) HA_20 (d_call (by kernel_rfl) (by kernel_rfl) H) (fun x115 h_22 w_24 H HA_24 => ?_)
                                refine ls_p (d := some 116) (by kernel_rfl) (by rw [hb_1]; kernel_rfl) (p_lit (pl := [(0, 1), (1, 3)]) Try.zeroValue27 Try.underlying27 ⟨(by kernel_rfl), Try.sizeOf21, (by kernel_rfl), Try.sizeOf25, trivial⟩ (by kernel_rfl) (by kernel_rfl) H) (fun x116 H => ?_)
                                refine ls_p (d := some 117) (by kernel_rfl) (by rw [hb_1]; kernel_rfl) (p_eqlAgg (eqT_27) (by kernel_rfl) (by kernel_rfl) H) (fun x117 H => ?_)
                                refine ls_pick_t (x := x117) (by kernel_rfl) (by rw [hb_1]; kernel_rfl) (by kernel_rfl) ?_
                                refine ls_nil ?_
                                refine then_normal ?_
                                exact ⟨(fun i => ([x35, x115, x116, x117]).getD i undef), x117, h_22, by kernel_rfl, HA_24, H⟩
                              · refine ls_skip (d := some 114) (by kernel_rfl) (by rw [hb_1]; kernel_rfl) ?_
                                refine ls_skip (d := some 115) (by kernel_rfl) (by rw [hb_1]; kernel_rfl) ?_
                                refine ls_skip (d := some 116) (by kernel_rfl) (by rw [hb_1]; kernel_rfl) ?_
                                refine ls_skip (d := some 117) (by kernel_rfl) (by rw [hb_1]; kernel_rfl) ?_
                                refine ls_pick_f (y := (.bool false)) (by kernel_rfl) (by rw [hb_1]; kernel_rfl) (by kernel_rfl) ?_
                                refine ls_nil ?_
                                refine then_normal ?_
                                exact ⟨(fun i => ([undef, undef, undef, undef]).getD i undef), (.bool false), h_18, by kernel_rfl, HA_20, H⟩
                              · rintro _ w_21 ⟨D_9, x118, h_19, rfl, HA_21, H⟩
                                refine ls_move (x := x118) (by kernel_rfl) (by kernel_rfl) ?_
                                refine ls_andh [(), ()] (fun K a w => ∃ (D_10 : Nat → Value) (x121 : Value) (h_20 : Heap), a = ⟨([x0, x1, x2, x3, x4, undef, undef, undef, undef, x9, (.bool false), x35, x75, x88, x90, x0, x16, x16, (D 0), (D 1), x20, x20, (D_1 0), (D_1 1), (D_1 2), (D_1 3), (D_1 4), (D_1 5), (D_1 6), (D_1 7), (D_1 8), x31, undef, x0, x1, x35, x35, x37, x0, x1, x40, x41, x35, x43, undef, x35, x1, x47, x48, x48] ++ [(D_2 0), (D_2 1), (D_2 2), (D_2 3), x54, x54, (D_3 0), (D_3 1), (D_3 2), (D_3 3), x60, x60, (D_4 0), (D_4 1), (D_4 2), (D_4 3), (D_4 4), x67, x67, (D_5 0), (D_5 1), (D_5 2), (D_5 3), x73, x35, x75, x35, x75, x78, x79, x79, (D_6 0), (D_6 1), x83, x75, x2, x3, x87, x88, x35, x90, x90, x92, x93, x35, x75, x96, x88, x98, x98] ++ [(D_7 0), (D_7 1), (D_7 2), x103, x104, x104, (D_8 0), (D_8 1), (D_8 2), (D_8 3), (D_8 4), (D_8 5), x112, x112, (D_9 0), (D_9 1), (D_9 2), (D_9 3), x118, x118, (D_10 0), x121]).toArray, []⟩ ∧ At w0 w h_20 ∧ K x121 h_20) H (fun hb H => ?_) (fun hb H => ?_) ?_
                                · refine ls_d (d := some 120) (by kernel_rfl) (by rw [hb]; kernel_rfl) HA_21 (d_call (by kernel_rfl) (by kernel_rfl) H) (fun x120 h_21 w_23 H HA_23 => ?_)
                                  refine ls_pick_t (x := x120) (by kernel_rfl) (by rw [hb]; kernel_rfl) (by kernel_rfl) ?_
                                  refine ls_nil ?_
                                  refine then_normal ?_
                                  exact ⟨(fun i => ([x120]).getD i undef), x120, h_21, by kernel_rfl, HA_23, H⟩
                                · refine ls_skip (d := some 120) (by kernel_rfl) (by rw [hb]; kernel_rfl) ?_
                                  refine ls_pick_f (y := (.bool false)) (by kernel_rfl) (by rw [hb]; kernel_rfl) (by kernel_rfl) ?_
                                  refine ls_nil ?_
                                  refine then_normal ?_
                                  exact ⟨(fun i => ([undef]).getD i undef), (.bool false), h_19, by kernel_rfl, HA_21, H⟩
                                · rintro _ w_22 ⟨D_10, x121, h_20, rfl, HA_22, H⟩
                                  refine ls_assign (x := x121) (by kernel_rfl) (by kernel_rfl) ?_
                                  refine ls_nil ?_
                                  refine then_normal ?_
                                  refine fr_eq (b := ⟨([x0, x1, x2, x3, x4, undef, undef, undef, undef, x9, x121, x35, x75, x88, x90, x0, x16, x16, (D 0), (D 1), x20, x20, (D_1 0), (D_1 1), (D_1 2), (D_1 3), (D_1 4), (D_1 5), (D_1 6), (D_1 7), (D_1 8), x31, undef, x0, x1, x35, x35, x37, x0, x1, x40, x41, x35, x43, undef, x35, x1, x47, x48, x48] ++ [(D_2 0), (D_2 1), (D_2 2), (D_2 3), x54, x54, (D_3 0), (D_3 1), (D_3 2), (D_3 3), x60, x60, (D_4 0), (D_4 1), (D_4 2), (D_4 3), (D_4 4), x67, x67, (D_5 0), (D_5 1), (D_5 2), (D_5 3), x73, x35, x75, x35, x75, x78, x79, x79, (D_6 0), (D_6 1), x83, x75, x2, x3, x87, x88, x35, x90, x90, x92, x93, x35, x75, x96, x88, x98, x98] ++ [(D_7 0), (D_7 1), (D_7 2), x103, x104, x104, (D_8 0), (D_8 1), (D_8 2), (D_8 3), (D_8 4), (D_8 5), x112, x112, (D_9 0), (D_9 1), (D_9 2), (D_9 3), x118, x118, (D_10 0), x121]).toArray, []⟩) (by kernel_rfl) ?_
                                  refine wp_ret ?_
                                  exact end1 (Try.results6) (by kernel_rfl) (by kernel_rfl) HA_22 H _ (.inr rfl)

end Go.Proofs.Ythhpieidlpjbmaa
