/- The shallow reading of one function, and that the function does it. Written by a program. -/
import Derived.Test.YthhpieidlpjbmaaFnC
set_option linter.unusedVariables false
namespace Go.Proofs.Ythhpieidlpjbmaa
open Go Go.HW

def betonylaw06_GridFills_j2 (next : Value → Value → Heap → Prop) (x14 x13_1 : Value) (h_7 : Heap) : Prop :=
  sAdd .i64 x14 (.int .i64 1) fun x40 =>
  next x13_1 x40 h_7
def betonylaw06_GridFills_l1 (R : Value → Heap → Prop) (x3 x4 x6 x16 x22 : Value) (next : Value → Value → Heap → Prop) (x13 x14 : Value) (h_6 : Heap) : Prop :=
  sLt x14 (.int .i64 144) fun x38 =>
  sIf x38 (∃ C : Heap → Prop, C h_6 ∧ (sRem .i64 x14 (.int .i64 12) fun x43 =>
  sQuo .i64 x14 (.int .i64 12) fun x45 =>
  grid_Grid_At_c x16 x43 x45 h_6 fun x46 h_8 => C h_8 ∧ (
  sLdNC C x6 4 fun x47 =>
  sEqlAgg x46 x47 [some .i32, some .i64, some .i64, some .i64] fun x48 =>
  sIf x48 (sAdd .i64 x13 (.int .i64 1) fun x50 =>
  betonylaw06_GridFills_j2 next x14 x50 h_8) (betonylaw06_GridFills_j2 next x14 x13 h_8)))) (sConv .i64 x3 fun x53 =>
  sRem .i64 x53 (.int .i64 12) fun x54 =>
  sConv .i64 x4 fun x56 =>
  sRem .i64 x56 (.int .i64 12) fun x57 =>
  grid_Grid_At_c x16 x54 x57 h_6 fun x58 h_9 => 
  sNew h_9 #[.int .i32 0, .int .i64 0, .int .i64 0, .int .i64 0] 27 fun x15 h_10 => 
  sStN h_10 x15 x58 4 fun h_11 => 
  sLdN h_11 x15 4 fun x59 =>
  sLdN h_11 x6 4 fun x60 =>
  sEqlAgg x59 x60 [some .i32, some .i64, some .i64, some .i64] fun x61 =>
  sOr x61 (fun k_3 =>
  sLdN h_11 x15 4 fun x63 =>
  sBuild #[.int .i32 0, .int .i64 0, .int .i64 0, .int .i64 0] [] fun x64 =>
  sEqlAgg x63 x64 [some .i32, some .i64, some .i64, some .i64] fun x65 =>
  k_3 x65) fun x66 =>
  sAnd x66 (fun k_1 =>
  sLdN h_11 x6 4 fun x68 =>
  sBuild #[.int .i32 0, .int .i64 0, .int .i64 0, .int .i64 0] [] fun x69 =>
  sEqlAgg x68 x69 [some .i32, some .i64, some .i64, some .i64] fun x70 =>
  sOr x70 (fun k_2 =>
  sEq x13 x22 fun x74 =>
  k_2 x74) fun x75 =>
  k_1 x75) fun x76 =>
  sAndH x76 h_11 (fun k =>
  betonylaw06_awake_c  h_11 fun x78 h_13 => 
  k x78 h_13) fun x79 h_12 =>
  R x79 h_12)
def betonylaw06_GridFills_S (x0 x1 x2 x3 x4 : Value) (h : Heap) (R : Value → Heap → Prop) : Prop :=
  sBox h x0 23 fun x5 h => 
  sBox h x1 27 fun x6 h_1 => 
  sBox h_1 x2 27 fun x7 h_2 => 
  grid_New_c (.int .i64 12) (.int .i64 12) h_2 fun x16 h_3 => 
  sEqlNil x16 fun x18 =>
  sIf x18 (R (.bool false) h_3) (sLdN h_3 x5 4 fun x20 =>
  sLdN h_3 x7 4 fun x21 =>
  grid_Grid_Fill_c x16 x20 x21 h_3 fun x22 h_4 => 
  sLdN h_4 x5 4 fun x24 =>
  sLdN h_4 x6 4 fun x25 =>
  grid_Grid_Fill_c x16 x24 x25 h_4 fun x26 h_5 => 
  sNe x26 x22 fun x28 =>
  sOr x28 (fun k_5 =>
  sLt x22 (.int .i64 0) fun x31 =>
  k_5 x31) fun x32 =>
  sOr x32 (fun k_4 =>
  sGt x22 (.int .i64 144) fun x35 =>
  k_4 x35) fun x36 =>
  sIf x36 (R (.bool false) h_5) (sLoop (S := Value × Value) (fun nxt s h => betonylaw06_GridFills_l1 R x3 x4 x6 x16 x22 (fun x13' x14' h => nxt (x13', x14') h) s.1 s.2 h) ((.int .i64 0), (.int .i64 0)) h_5))
set_option maxRecDepth 100000 in
theorem betonylaw06_GridFills_runs {x0 x1 x2 x3 x4 : Value} {h : Heap} {R : Value → Heap → Prop} (H : betonylaw06_GridFills_S x0 x1 x2 x3 x4 h R) : betonylaw06_GridFills_c x0 x1 x2 x3 x4 h R := by
  unfold betonylaw06_GridFills_S at H
  refine runs_of (b := ⟨([x0, x1, x2, x3, x4, undef, undef, undef, undef, undef, undef, undef, undef, undef, undef, undef, undef, undef, undef, undef, undef, undef, undef, undef, undef, undef, undef, undef, undef, undef, undef, undef, undef, undef, undef, undef, undef, undef, undef, undef, undef, undef, undef, undef, undef, undef, undef, undef, undef, undef] ++ [undef, undef, undef, undef, undef, undef, undef, undef, undef, undef, undef, undef, undef, undef, undef, undef, undef, undef, undef, undef, undef, undef, undef, undef, undef, undef, undef, undef, undef, undef]).toArray, []⟩) Try.call3 Try.func3 rfl (by kernel_rfl) (fun w0 HA => ?_)
  refine wp_seq ?_
  refine lwp_list ?_
  refine ls_d (d := some 5) (by kernel_rfl) (by kernel_rfl) HA (d_box (by kernel_rfl) H) (fun x5 h w H HA => ?_)
  refine ls_d (d := some 6) (by kernel_rfl) (by kernel_rfl) HA (d_box (by kernel_rfl) H) (fun x6 h_1 w_1 H HA_1 => ?_)
  refine ls_d (d := some 7) (by kernel_rfl) (by kernel_rfl) HA_1 (d_box (by kernel_rfl) H) (fun x7 h_2 w_2 H HA_2 => ?_)
  refine ls_assign (x := (.bool false)) (by kernel_rfl) (by kernel_rfl) ?_
  refine ls_nil ?_
  refine then_normal ?_
  refine fr_eq (b := ⟨([x0, x1, x2, x3, x4, x5, x6, x7, undef, undef, (.bool false), undef, undef, undef, undef, undef, undef, undef, undef, undef, undef, undef, undef, undef, undef, undef, undef, undef, undef, undef, undef, undef, undef, undef, undef, undef, undef, undef, undef, undef, undef, undef, undef, undef, undef, undef, undef, undef, undef, undef] ++ [undef, undef, undef, undef, undef, undef, undef, undef, undef, undef, undef, undef, undef, undef, undef, undef, undef, undef, undef, undef, undef, undef, undef, undef, undef, undef, undef, undef, undef, undef]).toArray, []⟩) (by kernel_rfl) ?_
  refine wp_seq ?_
  refine lwp_list ?_
  refine ls_d (d := some 16) (by kernel_rfl) (by kernel_rfl) HA_2 (d_call (by kernel_rfl) (by kernel_rfl) H) (fun x16 h_3 w_3 H HA_3 => ?_)
  refine ls_assign (x := x16) (by kernel_rfl) (by kernel_rfl) ?_
  refine ls_nil ?_
  refine then_normal ?_
  refine fr_eq (b := ⟨([x0, x1, x2, x3, x4, x5, x6, x7, undef, undef, (.bool false), x16, undef, undef, undef, undef, x16, undef, undef, undef, undef, undef, undef, undef, undef, undef, undef, undef, undef, undef, undef, undef, undef, undef, undef, undef, undef, undef, undef, undef, undef, undef, undef, undef, undef, undef, undef, undef, undef, undef] ++ [undef, undef, undef, undef, undef, undef, undef, undef, undef, undef, undef, undef, undef, undef, undef, undef, undef, undef, undef, undef, undef, undef, undef, undef, undef, undef, undef, undef, undef, undef]).toArray, []⟩) (by kernel_rfl) ?_
  refine wp_seq ?_
  refine wp_seq ?_
  refine lwp_list ?_
  refine ls_move (x := x16) (by kernel_rfl) (by kernel_rfl) ?_
  refine ls_p (d := some 18) (by kernel_rfl) (by kernel_rfl) (p_eqlNil Try.underlying28 (by kernel_rfl) (by kernel_rfl) H) (fun x18 H => ?_)
  refine ls_nil ?_
  refine then_normal ?_
  refine fr_eq (b := ⟨([x0, x1, x2, x3, x4, x5, x6, x7, undef, undef, (.bool false), x16, undef, undef, undef, undef, x16, x16, x18, undef, undef, undef, undef, undef, undef, undef, undef, undef, undef, undef, undef, undef, undef, undef, undef, undef, undef, undef, undef, undef, undef, undef, undef, undef, undef, undef, undef, undef, undef, undef] ++ [undef, undef, undef, undef, undef, undef, undef, undef, undef, undef, undef, undef, undef, undef, undef, undef, undef, undef, undef, undef, undef, undef, undef, undef, undef, undef, undef, undef, undef, undef]).toArray, []⟩) (by kernel_rfl) ?_
  refine wp_if rfl H (fun H => ?_) (fun H => ?_)
  · refine wp_seq ?_
    refine lwp_list ?_
    refine ls_assign (x := (.bool false)) (by kernel_rfl) (by kernel_rfl) ?_
    refine ls_nil ?_
    refine then_normal ?_
    refine fr_eq (b := ⟨([x0, x1, x2, x3, x4, x5, x6, x7, undef, undef, (.bool false), x16, undef, undef, undef, undef, x16, x16, x18, undef, undef, undef, undef, undef, undef, undef, undef, undef, undef, undef, undef, undef, undef, undef, undef, undef, undef, undef, undef, undef, undef, undef, undef, undef, undef, undef, undef, undef, undef, undef] ++ [undef, undef, undef, undef, undef, undef, undef, undef, undef, undef, undef, undef, undef, undef, undef, undef, undef, undef, undef, undef, undef, undef, undef, undef, undef, undef, undef, undef, undef, undef]).toArray, []⟩) (by kernel_rfl) ?_
    refine wp_ret ?_
    refine then_ret ?_
    exact end1 (Try.results3) (by kernel_rfl) (by kernel_rfl) HA_3 H _ (.inr rfl)
  · refine wp_skip ?_
    refine then_normal ?_
    refine fr_eq (b := ⟨([x0, x1, x2, x3, x4, x5, x6, x7, undef, undef, (.bool false), x16, undef, undef, undef, undef, x16, x16, x18, undef, undef, undef, undef, undef, undef, undef, undef, undef, undef, undef, undef, undef, undef, undef, undef, undef, undef, undef, undef, undef, undef, undef, undef, undef, undef, undef, undef, undef, undef, undef] ++ [undef, undef, undef, undef, undef, undef, undef, undef, undef, undef, undef, undef, undef, undef, undef, undef, undef, undef, undef, undef, undef, undef, undef, undef, undef, undef, undef, undef, undef, undef]).toArray, []⟩) (by kernel_rfl) ?_
    refine wp_seq ?_
    refine lwp_list ?_
    refine ls_move (x := x16) (by kernel_rfl) (by kernel_rfl) ?_
    refine ls_y (d := some 20) (by kernel_rfl) (by kernel_rfl) HA_3 (y_ldn Try.isAgg23 Try.sizeOf23 (by kernel_rfl) H) (fun x20 H => ?_)
    refine ls_y (d := some 21) (by kernel_rfl) (by kernel_rfl) HA_3 (y_ldn Try.isAgg27 Try.sizeOf27 (by kernel_rfl) H) (fun x21 H => ?_)
    refine ls_d (d := some 22) (by kernel_rfl) (by kernel_rfl) HA_3 (d_call (by kernel_rfl) (by kernel_rfl) H) (fun x22 h_4 w_4 H HA_4 => ?_)
    refine ls_assign (x := x22) (by kernel_rfl) (by kernel_rfl) ?_
    refine ls_nil ?_
    refine then_normal ?_
    refine fr_eq (b := ⟨([x0, x1, x2, x3, x4, x5, x6, x7, undef, undef, (.bool false), x16, x22, undef, undef, undef, x16, x16, x18, x16, x20, x21, x22, undef, undef, undef, undef, undef, undef, undef, undef, undef, undef, undef, undef, undef, undef, undef, undef, undef, undef, undef, undef, undef, undef, undef, undef, undef, undef, undef] ++ [undef, undef, undef, undef, undef, undef, undef, undef, undef, undef, undef, undef, undef, undef, undef, undef, undef, undef, undef, undef, undef, undef, undef, undef, undef, undef, undef, undef, undef, undef]).toArray, []⟩) (by kernel_rfl) ?_
    refine wp_seq ?_
    refine wp_seq ?_
    refine lwp_list ?_
    refine ls_move (x := x16) (by kernel_rfl) (by kernel_rfl) ?_
    refine ls_y (d := some 24) (by kernel_rfl) (by kernel_rfl) HA_4 (y_ldn Try.isAgg23 Try.sizeOf23 (by kernel_rfl) H) (fun x24 H => ?_)
    refine ls_y (d := some 25) (by kernel_rfl) (by kernel_rfl) HA_4 (y_ldn Try.isAgg27 Try.sizeOf27 (by kernel_rfl) H) (fun x25 H => ?_)
    refine ls_d (d := some 26) (by kernel_rfl) (by kernel_rfl) HA_4 (d_call (by kernel_rfl) (by kernel_rfl) H) (fun x26 h_5 w_5 H HA_5 => ?_)
    refine ls_move (x := x22) (by kernel_rfl) (by kernel_rfl) ?_
    refine ls_p (d := some 28) (by kernel_rfl) (by kernel_rfl) (p_sNe (by kernel_rfl) (by kernel_rfl) H) (fun x28 H => ?_)
    refine ls_fr (b := ⟨([x0, x1, x2, x3, x4, x5, x6, x7, undef, undef, (.bool false), x16, x22, undef, undef, undef, x16, x16, x18, x16, x20, x21, x22, x16, x24, x25, x26, x22, x28, undef, undef, undef, undef, undef, undef, undef, undef, undef, undef, undef, undef, undef, undef, undef, undef, undef, undef, undef, undef, undef] ++ [undef, undef, undef, undef, undef, undef, undef, undef, undef, undef, undef, undef, undef, undef, undef, undef, undef, undef, undef, undef, undef, undef, undef, undef, undef, undef, undef, undef, undef, undef]).toArray, []⟩) (by kernel_rfl) ?_
    refine ls_move (x := x28) (by kernel_rfl) (by kernel_rfl) ?_
    refine ls_or [(), (), ()] (fun K a w => ∃ (D : Nat → Value) (x32 : Value), a = ⟨([x0, x1, x2, x3, x4, x5, x6, x7, undef, undef, (.bool false), x16, x22, undef, undef, undef, x16, x16, x18, x16, x20, x21, x22, x16, x24, x25, x26, x22, x28, x28, (D 0), (D 1), x32, undef, undef, undef, undef, undef, undef, undef, undef, undef, undef, undef, undef, undef, undef, undef, undef, undef] ++ [undef, undef, undef, undef, undef, undef, undef, undef, undef, undef, undef, undef, undef, undef, undef, undef, undef, undef, undef, undef, undef, undef, undef, undef, undef, undef, undef, undef, undef, undef]).toArray, []⟩ ∧ At w0 w h_5 ∧ K x32) H (fun hb_5 H => ?_) (fun hb_5 H => ?_) ?_
    · refine ls_move (x := x22) (by rw [hb_5]; kernel_rfl) (by kernel_rfl) ?_
      refine ls_p (d := some 31) (by kernel_rfl) (by rw [hb_5]; kernel_rfl) (p_sLt (by kernel_rfl) (by kernel_rfl) H) (fun x31 H => ?_)
      refine ls_pick_f (y := x31) (by kernel_rfl) (by rw [hb_5]; kernel_rfl) (by kernel_rfl) ?_
      refine ls_nil ?_
      refine then_normal ?_
      exact ⟨(fun i => ([x22, x31]).getD i undef), x31, by kernel_rfl, HA_5, H⟩
    · refine ls_skip (d := some 30) (by kernel_rfl) (by rw [hb_5]; kernel_rfl) ?_
      refine ls_skip (d := some 31) (by kernel_rfl) (by rw [hb_5]; kernel_rfl) ?_
      refine ls_pick_t (x := (.bool true)) (by kernel_rfl) (by rw [hb_5]; kernel_rfl) (by kernel_rfl) ?_
      refine ls_nil ?_
      refine then_normal ?_
      exact ⟨(fun i => ([undef, undef]).getD i undef), (.bool true), by kernel_rfl, HA_5, H⟩
    · rintro _ w_6 ⟨D, x32, rfl, HA_6, H⟩
      refine ls_move (x := x32) (by kernel_rfl) (by kernel_rfl) ?_
      refine ls_or [(), (), ()] (fun K a w => ∃ (D_1 : Nat → Value) (x36 : Value), a = ⟨([x0, x1, x2, x3, x4, x5, x6, x7, undef, undef, (.bool false), x16, x22, undef, undef, undef, x16, x16, x18, x16, x20, x21, x22, x16, x24, x25, x26, x22, x28, x28, (D 0), (D 1), x32, x32, (D_1 0), (D_1 1), x36, undef, undef, undef, undef, undef, undef, undef, undef, undef, undef, undef, undef, undef] ++ [undef, undef, undef, undef, undef, undef, undef, undef, undef, undef, undef, undef, undef, undef, undef, undef, undef, undef, undef, undef, undef, undef, undef, undef, undef, undef, undef, undef, undef, undef]).toArray, []⟩ ∧ At w0 w h_5 ∧ K x36) H (fun hb_4 H => ?_) (fun hb_4 H => ?_) ?_
      · refine ls_move (x := x22) (by rw [hb_4]; kernel_rfl) (by kernel_rfl) ?_
        refine ls_p (d := some 35) (by kernel_rfl) (by rw [hb_4]; kernel_rfl) (p_sGt (by kernel_rfl) (by kernel_rfl) H) (fun x35 H => ?_)
        refine ls_pick_f (y := x35) (by kernel_rfl) (by rw [hb_4]; kernel_rfl) (by kernel_rfl) ?_
        refine ls_nil ?_
        refine then_normal ?_
        exact ⟨(fun i => ([x22, x35]).getD i undef), x35, by kernel_rfl, HA_6, H⟩
      · refine ls_skip (d := some 34) (by kernel_rfl) (by rw [hb_4]; kernel_rfl) ?_
        refine ls_skip (d := some 35) (by kernel_rfl) (by rw [hb_4]; kernel_rfl) ?_
        refine ls_pick_t (x := (.bool true)) (by kernel_rfl) (by rw [hb_4]; kernel_rfl) (by kernel_rfl) ?_
        refine ls_nil ?_
        refine then_normal ?_
        exact ⟨(fun i => ([undef, undef]).getD i undef), (.bool true), by kernel_rfl, HA_6, H⟩
      · rintro _ w_7 ⟨D_1, x36, rfl, HA_7, H⟩
        refine ls_nil ?_
        refine then_normal ?_
        refine fr_eq (b := ⟨([x0, x1, x2, x3, x4, x5, x6, x7, undef, undef, (.bool false), x16, x22, undef, undef, undef, x16, x16, x18, x16, x20, x21, x22, x16, x24, x25, x26, x22, x28, x28, (D 0), (D 1), x32, x32, (D_1 0), (D_1 1), x36, undef, undef, undef, undef, undef, undef, undef, undef, undef, undef, undef, undef, undef] ++ [undef, undef, undef, undef, undef, undef, undef, undef, undef, undef, undef, undef, undef, undef, undef, undef, undef, undef, undef, undef, undef, undef, undef, undef, undef, undef, undef, undef, undef, undef]).toArray, []⟩) (by kernel_rfl) ?_
        refine wp_if rfl H (fun H => ?_) (fun H => ?_)
        · refine wp_seq ?_
          refine lwp_list ?_
          refine ls_assign (x := (.bool false)) (by kernel_rfl) (by kernel_rfl) ?_
          refine ls_nil ?_
          refine then_normal ?_
          refine fr_eq (b := ⟨([x0, x1, x2, x3, x4, x5, x6, x7, undef, undef, (.bool false), x16, x22, undef, undef, undef, x16, x16, x18, x16, x20, x21, x22, x16, x24, x25, x26, x22, x28, x28, (D 0), (D 1), x32, x32, (D_1 0), (D_1 1), x36, undef, undef, undef, undef, undef, undef, undef, undef, undef, undef, undef, undef, undef] ++ [undef, undef, undef, undef, undef, undef, undef, undef, undef, undef, undef, undef, undef, undef, undef, undef, undef, undef, undef, undef, undef, undef, undef, undef, undef, undef, undef, undef, undef, undef]).toArray, []⟩) (by kernel_rfl) ?_
          refine wp_ret ?_
          refine then_ret ?_
          exact end1 (Try.results3) (by kernel_rfl) (by kernel_rfl) HA_7 H _ (.inr rfl)
        · refine wp_skip ?_
          refine then_normal ?_
          refine fr_eq (b := ⟨([x0, x1, x2, x3, x4, x5, x6, x7, undef, undef, (.bool false), x16, x22, undef, undef, undef, x16, x16, x18, x16, x20, x21, x22, x16, x24, x25, x26, x22, x28, x28, (D 0), (D 1), x32, x32, (D_1 0), (D_1 1), x36, undef, undef, undef, undef, undef, undef, undef, undef, undef, undef, undef, undef, undef] ++ [undef, undef, undef, undef, undef, undef, undef, undef, undef, undef, undef, undef, undef, undef, undef, undef, undef, undef, undef, undef, undef, undef, undef, undef, undef, undef, undef, undef, undef, undef]).toArray, []⟩) (by kernel_rfl) ?_
          refine wp_seq ?_
          refine lwp_list ?_
          refine ls_assign (x := (.int .i64 0)) (by kernel_rfl) (by kernel_rfl) ?_
          refine ls_nil ?_
          refine then_normal ?_
          refine fr_eq (b := ⟨([x0, x1, x2, x3, x4, x5, x6, x7, undef, undef, (.bool false), x16, x22, (.int .i64 0), undef, undef, x16, x16, x18, x16, x20, x21, x22, x16, x24, x25, x26, x22, x28, x28, (D 0), (D 1), x32, x32, (D_1 0), (D_1 1), x36, undef, undef, undef, undef, undef, undef, undef, undef, undef, undef, undef, undef, undef] ++ [undef, undef, undef, undef, undef, undef, undef, undef, undef, undef, undef, undef, undef, undef, undef, undef, undef, undef, undef, undef, undef, undef, undef, undef, undef, undef, undef, undef, undef, undef]).toArray, []⟩) (by kernel_rfl) ?_
          refine wp_seq ?_
          refine wp_seq ?_
          refine lwp_list ?_
          refine ls_assign (x := (.int .i64 0)) (by kernel_rfl) (by kernel_rfl) ?_
          refine ls_nil ?_
          refine then_normal ?_
          refine fr_eq (b := ⟨([x0, x1, x2, x3, x4, x5, x6, x7, undef, undef, (.bool false), x16, x22, (.int .i64 0), (.int .i64 0), undef, x16, x16, x18, x16, x20, x21, x22, x16, x24, x25, x26, x22, x28, x28, (D 0), (D 1), x32, x32, (D_1 0), (D_1 1), x36, undef, undef, undef, undef, undef, undef, undef, undef, undef, undef, undef, undef, undef] ++ [undef, undef, undef, undef, undef, undef, undef, undef, undef, undef, undef, undef, undef, undef, undef, undef, undef, undef, undef, undef, undef, undef, undef, undef, undef, undef, undef, undef, undef, undef]).toArray, []⟩) (by kernel_rfl) ?_
          refine wp_block ?_
          obtain ⟨I, m, H0, HB⟩ := H
          refine wp_loop (fun a w => ∃ (D_2 : Nat → Value) (x13 x14 : Value) (h_6 : Heap), a = ⟨([x0, x1, x2, x3, x4, x5, x6, x7, undef, undef, (.bool false), x16, x22, x13, x14, undef, x16, x16, x18, x16, x20, x21, x22, x16, x24, x25, x26, x22, x28, x28, (D 0), (D 1), x32, x32, (D_1 0), (D_1 1), x36, (D_2 0), (D_2 1), (D_2 2), (D_2 3), (D_2 4), (D_2 5), (D_2 6), (D_2 7), (D_2 8), (D_2 9), (D_2 10), (D_2 11), (D_2 12)] ++ [(D_2 13), undef, undef, undef, undef, undef, undef, undef, undef, undef, undef, undef, undef, undef, undef, undef, undef, undef, undef, undef, undef, undef, undef, undef, undef, undef, undef, undef, undef, undef]).toArray, []⟩ ∧ At w0 w h_6 ∧ I (x13, x14) h_6) (fun a w => m ((a.tmps.getD 13 undef), (a.tmps.getD 14 undef)) w.heap) ?_ ?_
          · exact ⟨(fun i => ([undef, undef, undef, undef, undef, undef, undef, undef, undef, undef, undef, undef, undef, undef]).getD i undef), (.int .i64 0), (.int .i64 0), h_5, by kernel_rfl, HA_7, H0⟩
          · rintro _ w_8 ⟨D_2, x13, x14, h_6, rfl, HA_8, HI⟩
            have H : betonylaw06_GridFills_l1 R x3 x4 x6 x16 x22 (fun x13' x14' h' => I (x13', x14') h' ∧ m (x13', x14') h' < m (x13, x14) h_6) x13 x14 h_6 := HB (x13, x14) h_6 HI
            clear HB H0 HI
            unfold betonylaw06_GridFills_l1 at H
            refine wp_seq ?_
            refine wp_seq ?_
            refine lwp_list ?_
            refine ls_move (x := x14) (by kernel_rfl) (by kernel_rfl) ?_
            refine ls_p (d := some 38) (by kernel_rfl) (by kernel_rfl) (p_sLt (by kernel_rfl) (by kernel_rfl) H) (fun x38 H => ?_)
            refine ls_nil ?_
            refine then_normal ?_
            refine fr_eq (b := ⟨([x0, x1, x2, x3, x4, x5, x6, x7, undef, undef, (.bool false), x16, x22, x13, x14, undef, x16, x16, x18, x16, x20, x21, x22, x16, x24, x25, x26, x22, x28, x28, (D 0), (D 1), x32, x32, (D_1 0), (D_1 1), x36, x14, x38, (D_2 2), (D_2 3), (D_2 4), (D_2 5), (D_2 6), (D_2 7), (D_2 8), (D_2 9), (D_2 10), (D_2 11), (D_2 12)] ++ [(D_2 13), undef, undef, undef, undef, undef, undef, undef, undef, undef, undef, undef, undef, undef, undef, undef, undef, undef, undef, undef, undef, undef, undef, undef, undef, undef, undef, undef, undef, undef]).toArray, []⟩) (by kernel_rfl) ?_
            refine wp_if rfl H (fun H => ?_) (fun H => ?_)
            · refine wp_skip ?_
              refine then_normal ?_
              refine fr_eq (b := ⟨([x0, x1, x2, x3, x4, x5, x6, x7, undef, undef, (.bool false), x16, x22, x13, x14, undef, x16, x16, x18, x16, x20, x21, x22, x16, x24, x25, x26, x22, x28, x28, (D 0), (D 1), x32, x32, (D_1 0), (D_1 1), x36, x14, x38, (D_2 2), (D_2 3), (D_2 4), (D_2 5), (D_2 6), (D_2 7), (D_2 8), (D_2 9), (D_2 10), (D_2 11), (D_2 12)] ++ [(D_2 13), undef, undef, undef, undef, undef, undef, undef, undef, undef, undef, undef, undef, undef, undef, undef, undef, undef, undef, undef, undef, undef, undef, undef, undef, undef, undef, undef, undef, undef]).toArray, []⟩) (by kernel_rfl) ?_
              refine wp_seq ?_
              refine wp_join (fun a w => ∃ (D_3 : Nat → Value) (x13_1 : Value) (h_7 : Heap), a = ⟨([x0, x1, x2, x3, x4, x5, x6, x7, undef, undef, (.bool false), x16, x22, x13_1, x14, undef, x16, x16, x18, x16, x20, x21, x22, x16, x24, x25, x26, x22, x28, x28, (D 0), (D 1), x32, x32, (D_1 0), (D_1 1), x36, x14, x38, (D_2 2), (D_2 3), (D_3 0), (D_3 1), (D_3 2), (D_3 3), (D_3 4), (D_3 5), (D_3 6), (D_3 7), (D_3 8)] ++ [(D_3 9), undef, undef, undef, undef, undef, undef, undef, undef, undef, undef, undef, undef, undef, undef, undef, undef, undef, undef, undef, undef, undef, undef, undef, undef, undef, undef, undef, undef, undef]).toArray, []⟩ ∧ At w0 w h_7 ∧ betonylaw06_GridFills_j2 (fun x13' x14' h' => I (x13', x14') h' ∧ m (x13', x14') h' < m (x13, x14) h_6) x14 x13_1 h_7) ?_ ?_
              · refine wp_block ?_
                refine wp_seq ?_
                obtain ⟨C, HC, H⟩ := H
                refine lwp_mx (Nat.testBit 32) (Nat.testBit 32) (Nat.testBit 159) [0, 0, 2, 0, 8, 31, 0, 127] (Nat.testBit 0) C [0, 1, 2, 3, 4, 5, 6, 7] (by kernel_rfl) (by kernel_rfl) (by kernel_rfl) (by kernel_rfl) HA_8 HC ?_
                intro w_10 HA_10
                refine lm_al (x := x16) (d := some 41) (by kernel_rfl) rfl (by kernel_rfl) (by kernel_rfl) (al_move (by kernel_rfl)) ?_
                refine lm_al (x := x14) (d := some 42) (by kernel_rfl) rfl (by kernel_rfl) (by kernel_rfl) (al_move (by kernel_rfl)) ?_
                refine lm_p (d := some 43) (by kernel_rfl) rfl (by kernel_rfl) (by kernel_rfl) (p_rem (by kernel_rfl) (by kernel_rfl) H) (fun x43 H => ?_)
                refine lm_al (x := x14) (d := some 44) (by kernel_rfl) rfl (by kernel_rfl) (by kernel_rfl) (al_move (by kernel_rfl)) ?_
                refine lm_p (d := some 45) (by kernel_rfl) rfl (by kernel_rfl) (by kernel_rfl) (p_quo (by kernel_rfl) (by kernel_rfl) H) (fun x45 H => ?_)
                refine lm_dc (d := some 46) (by kernel_rfl) rfl (by kernel_rfl) (by kernel_rfl) (by kernel_rfl) HA_10 (d_call (by kernel_rfl) (by kernel_rfl) H) (fun x46 h_8 w_11 H HA_11 => ?_)
                refine lm_fr (b := ⟨([x0, x1, x2, x3, x4, x5, x6, x7, undef, undef, (.bool false), x16, x22, x13, x14, undef, x16, x16, x18, x16, x20, x21, x22, x16, x24, x25, x26, x22, x28, x28, (D 0), (D 1), x32, x32, (D_1 0), (D_1 1), x36, x14, x38, (D_2 2), (D_2 3), x16, x14, x43, x14, x45, x46, (D_2 10), (D_2 11), (D_2 12)] ++ [(D_2 13), undef, undef, undef, undef, undef, undef, undef, undef, undef, undef, undef, undef, undef, undef, undef, undef, undef, undef, undef, undef, undef, undef, undef, undef, undef, undef, undef, undef, undef]).toArray, []⟩) (by kernel_rfl) ?_
                refine lm_f (d := some 47) (by kernel_rfl) rfl (by kernel_rfl) (by kernel_rfl) (by kernel_rfl) (by kernel_rfl) (c_ldn Try.isAgg27 Try.sizeOf27 (by kernel_rfl) H) (fun x47 H => ?_)
                refine lm_p (d := some 48) (by kernel_rfl) rfl (by kernel_rfl) (by kernel_rfl) (p_eqlAgg (eqT_27) (by kernel_rfl) (by kernel_rfl) H) (fun x48 H => ?_)
                refine lm_nil ?_
                refine then_normal ?_
                refine fr_eq (b := ⟨([x0, x1, x2, x3, x4, x5, x6, x7, undef, undef, (.bool false), x16, x22, x13, x14, undef, x16, x16, x18, x16, x20, x21, x22, x16, x24, x25, x26, x22, x28, x28, (D 0), (D 1), x32, x32, (D_1 0), (D_1 1), x36, x14, x38, (D_2 2), (D_2 3), x16, x14, x43, x14, x45, x46, x47, x48, (D_2 12)] ++ [(D_2 13), undef, undef, undef, undef, undef, undef, undef, undef, undef, undef, undef, undef, undef, undef, undef, undef, undef, undef, undef, undef, undef, undef, undef, undef, undef, undef, undef, undef, undef]).toArray, []⟩) (by kernel_rfl) ?_
                refine wp_if rfl H (fun H => ?_) (fun H => ?_)
                · refine lwp_list ?_
                  refine ls_move (x := x13) (by kernel_rfl) (by kernel_rfl) ?_
                  refine ls_p (d := some 50) (by kernel_rfl) (by kernel_rfl) (p_add (by kernel_rfl) (by kernel_rfl) H) (fun x50 H => ?_)
                  refine ls_assign (x := x50) (by kernel_rfl) (by kernel_rfl) ?_
                  refine ls_nil ?_
                  refine block_normal ?_
                  exact ⟨(fun i => ([x16, x14, x43, x14, x45, x46, x47, x48, x13, x50]).getD i undef), x50, h_8, by kernel_rfl, HA_11, H⟩
                · refine wp_skip ?_
                  refine block_normal ?_
                  exact ⟨(fun i => ([x16, x14, x43, x14, x45, x46, x47, x48, (D_2 12), (D_2 13)]).getD i undef), x13, h_8, by kernel_rfl, HA_11, H⟩
              · rintro _ w_9 ⟨D_3, x13_1, h_7, rfl, HA_9, H⟩
                unfold betonylaw06_GridFills_j2 at H
                refine then_normal ?_
                refine fr_eq (b := ⟨([x0, x1, x2, x3, x4, x5, x6, x7, undef, undef, (.bool false), x16, x22, x13_1, x14, undef, x16, x16, x18, x16, x20, x21, x22, x16, x24, x25, x26, x22, x28, x28, (D 0), (D 1), x32, x32, (D_1 0), (D_1 1), x36, x14, x38, (D_2 2), (D_2 3), (D_3 0), (D_3 1), (D_3 2), (D_3 3), (D_3 4), (D_3 5), (D_3 6), (D_3 7), (D_3 8)] ++ [(D_3 9), undef, undef, undef, undef, undef, undef, undef, undef, undef, undef, undef, undef, undef, undef, undef, undef, undef, undef, undef, undef, undef, undef, undef, undef, undef, undef, undef, undef, undef]).toArray, []⟩) (by kernel_rfl) ?_
                refine lwp_list ?_
                refine ls_move (x := x14) (by kernel_rfl) (by kernel_rfl) ?_
                refine ls_p (d := some 40) (by kernel_rfl) (by kernel_rfl) (p_add (by kernel_rfl) (by kernel_rfl) H) (fun x40 H => ?_)
                refine ls_assign (x := x40) (by kernel_rfl) (by kernel_rfl) ?_
                refine ls_nil ?_
                exact ⟨⟨(fun i => ([x14, x38, x14, x40, (D_3 0), (D_3 1), (D_3 2), (D_3 3), (D_3 4), (D_3 5), (D_3 6), (D_3 7), (D_3 8), (D_3 9)]).getD i undef), x13_1, x40, h_7, by kernel_rfl, HA_9, H.1⟩, loop_lt HA_9.heap HA_8.heap (by kernel_rfl) (by kernel_rfl) H.2⟩
            · refine wp_exit ?_
              refine then_exit ?_
              refine then_exit ?_
              refine block_exit ?_
              refine then_normal ?_
              refine fr_eq (b := ⟨([x0, x1, x2, x3, x4, x5, x6, x7, undef, undef, (.bool false), x16, x22, x13, x14, undef, x16, x16, x18, x16, x20, x21, x22, x16, x24, x25, x26, x22, x28, x28, (D 0), (D 1), x32, x32, (D_1 0), (D_1 1), x36, x14, x38, (D_2 2), (D_2 3), (D_2 4), (D_2 5), (D_2 6), (D_2 7), (D_2 8), (D_2 9), (D_2 10), (D_2 11), (D_2 12)] ++ [(D_2 13), undef, undef, undef, undef, undef, undef, undef, undef, undef, undef, undef, undef, undef, undef, undef, undef, undef, undef, undef, undef, undef, undef, undef, undef, undef, undef, undef, undef, undef]).toArray, []⟩) (by kernel_rfl) ?_
              refine wp_seq ?_
              refine lwp_list ?_
              refine ls_move (x := x16) (by kernel_rfl) (by kernel_rfl) ?_
              refine ls_move (x := x3) (by kernel_rfl) (by kernel_rfl) ?_
              refine ls_p (d := some 53) (by kernel_rfl) (by kernel_rfl) (p_conv Try.underlying5 Try.underlying3 (by kernel_rfl) H) (fun x53 H => ?_)
              refine ls_p (d := some 54) (by kernel_rfl) (by kernel_rfl) (p_rem (by kernel_rfl) (by kernel_rfl) H) (fun x54 H => ?_)
              refine ls_move (x := x4) (by kernel_rfl) (by kernel_rfl) ?_
              refine ls_p (d := some 56) (by kernel_rfl) (by kernel_rfl) (p_conv Try.underlying5 Try.underlying3 (by kernel_rfl) H) (fun x56 H => ?_)
              refine ls_fr (b := ⟨([x0, x1, x2, x3, x4, x5, x6, x7, undef, undef, (.bool false), x16, x22, x13, x14, undef, x16, x16, x18, x16, x20, x21, x22, x16, x24, x25, x26, x22, x28, x28, (D 0), (D 1), x32, x32, (D_1 0), (D_1 1), x36, x14, x38, (D_2 2), (D_2 3), (D_2 4), (D_2 5), (D_2 6), (D_2 7), (D_2 8), (D_2 9), (D_2 10), (D_2 11), (D_2 12)] ++ [(D_2 13), x16, x3, x53, x54, x4, x56, undef, undef, undef, undef, undef, undef, undef, undef, undef, undef, undef, undef, undef, undef, undef, undef, undef, undef, undef, undef, undef, undef, undef]).toArray, []⟩) (by kernel_rfl) ?_
              refine ls_p (d := some 57) (by kernel_rfl) (by kernel_rfl) (p_rem (by kernel_rfl) (by kernel_rfl) H) (fun x57 H => ?_)
              refine ls_d (d := some 58) (by kernel_rfl) (by kernel_rfl) HA_8 (d_call (by kernel_rfl) (by kernel_rfl) H) (fun x58 h_9 w_12 H HA_12 => ?_)
              refine ls_d (d := some 15) (by kernel_rfl) (by kernel_rfl) HA_12 (d_alloc Try.zeroValue27 H) (fun x15 h_10 w_13 H HA_13 => ?_)
              refine ls_d (d := none) (by kernel_rfl) (by kernel_rfl) HA_13 (d_stn Try.sizeOf27 (by kernel_rfl) (by kernel_rfl) H) (fun _ h_11 w_14 H HA_14 => ?_)
              refine ls_nil ?_
              refine then_normal ?_
              refine fr_eq (b := ⟨([x0, x1, x2, x3, x4, x5, x6, x7, undef, undef, (.bool false), x16, x22, x13, x14, x15, x16, x16, x18, x16, x20, x21, x22, x16, x24, x25, x26, x22, x28, x28, (D 0), (D 1), x32, x32, (D_1 0), (D_1 1), x36, x14, x38, (D_2 2), (D_2 3), (D_2 4), (D_2 5), (D_2 6), (D_2 7), (D_2 8), (D_2 9), (D_2 10), (D_2 11), (D_2 12)] ++ [(D_2 13), x16, x3, x53, x54, x4, x56, x57, x58, undef, undef, undef, undef, undef, undef, undef, undef, undef, undef, undef, undef, undef, undef, undef, undef, undef, undef, undef, undef, undef]).toArray, []⟩) (by kernel_rfl) ?_
              refine wp_seq ?_
              refine lwp_list ?_
              refine ls_y (d := some 59) (by kernel_rfl) (by kernel_rfl) HA_14 (y_ldn Try.isAgg27 Try.sizeOf27 (by kernel_rfl) H) (fun x59 H => ?_)
              refine ls_y (d := some 60) (by kernel_rfl) (by kernel_rfl) HA_14 (y_ldn Try.isAgg27 Try.sizeOf27 (by kernel_rfl) H) (fun x60 H => ?_)
              refine ls_p (d := some 61) (by kernel_rfl) (by kernel_rfl) (p_eqlAgg (eqT_27) (by kernel_rfl) (by kernel_rfl) H) (fun x61 H => ?_)
              refine ls_move (x := x61) (by kernel_rfl) (by kernel_rfl) ?_
              refine ls_or [(), (), (), ()] (fun K a w => ∃ (D_4 : Nat → Value) (x66 : Value), a = ⟨([x0, x1, x2, x3, x4, x5, x6, x7, undef, undef, (.bool false), x16, x22, x13, x14, x15, x16, x16, x18, x16, x20, x21, x22, x16, x24, x25, x26, x22, x28, x28, (D 0), (D 1), x32, x32, (D_1 0), (D_1 1), x36, x14, x38, (D_2 2), (D_2 3), (D_2 4), (D_2 5), (D_2 6), (D_2 7), (D_2 8), (D_2 9), (D_2 10), (D_2 11), (D_2 12)] ++ [(D_2 13), x16, x3, x53, x54, x4, x56, x57, x58, x59, x60, x61, x61, (D_4 0), (D_4 1), (D_4 2), x66, undef, undef, undef, undef, undef, undef, undef, undef, undef, undef, undef, undef, undef]).toArray, []⟩ ∧ At w0 w h_11 ∧ K x66) H (fun hb_3 H => ?_) (fun hb_3 H => ?_) ?_
              · refine ls_y (d := some 63) (by kernel_rfl) (by rw [hb_3]; kernel_rfl) HA_14 (y_ldn Try.isAgg27 Try.sizeOf27 (by kernel_rfl) H) (fun x63 H => ?_)
                refine ls_p (d := some 64) (by kernel_rfl) (by rw [hb_3]; kernel_rfl) (p_lit (pl := [(0, 1), (1, 3)]) Try.zeroValue27 Try.underlying27 ⟨(by kernel_rfl), Try.sizeOf21, (by kernel_rfl), Try.sizeOf25, trivial⟩ (by kernel_rfl) (by kernel_rfl) H) (fun x64 H => ?_)
                refine ls_fr (b := ⟨([x0, x1, x2, x3, x4, x5, x6, x7, undef, undef, (.bool false), x16, x22, x13, x14, x15, x16, x16, x18, x16, x20, x21, x22, x16, x24, x25, x26, x22, x28, x28, (D 0), (D 1), x32, x32, (D_1 0), (D_1 1), x36, x14, x38, (D_2 2), (D_2 3), (D_2 4), (D_2 5), (D_2 6), (D_2 7), (D_2 8), (D_2 9), (D_2 10), (D_2 11), (D_2 12)] ++ [(D_2 13), x16, x3, x53, x54, x4, x56, x57, x58, x59, x60, x61, x61, x63, x64, undef, undef, undef, undef, undef, undef, undef, undef, undef, undef, undef, undef, undef, undef, undef]).toArray, []⟩) (by kernel_rfl) ?_
                refine ls_p (d := some 65) (by kernel_rfl) (by rw [hb_3]; kernel_rfl) (p_eqlAgg (eqT_27) (by kernel_rfl) (by kernel_rfl) H) (fun x65 H => ?_)
                refine ls_pick_f (y := x65) (by kernel_rfl) (by rw [hb_3]; kernel_rfl) (by kernel_rfl) ?_
                refine ls_nil ?_
                refine then_normal ?_
                exact ⟨(fun i => ([x63, x64, x65]).getD i undef), x65, by kernel_rfl, HA_14, H⟩
              · refine ls_skip (d := some 63) (by kernel_rfl) (by rw [hb_3]; kernel_rfl) ?_
                refine ls_skip (d := some 64) (by kernel_rfl) (by rw [hb_3]; kernel_rfl) ?_
                refine ls_fr (b := ⟨([x0, x1, x2, x3, x4, x5, x6, x7, undef, undef, (.bool false), x16, x22, x13, x14, x15, x16, x16, x18, x16, x20, x21, x22, x16, x24, x25, x26, x22, x28, x28, (D 0), (D 1), x32, x32, (D_1 0), (D_1 1), x36, x14, x38, (D_2 2), (D_2 3), (D_2 4), (D_2 5), (D_2 6), (D_2 7), (D_2 8), (D_2 9), (D_2 10), (D_2 11), (D_2 12)] ++ [(D_2 13), x16, x3, x53, x54, x4, x56, x57, x58, x59, x60, x61, x61, undef, undef, undef, undef, undef, undef, undef, undef, undef, undef, undef, undef, undef, undef, undef, undef, undef]).toArray, []⟩) (by kernel_rfl) ?_
                refine ls_skip (d := some 65) (by kernel_rfl) (by rw [hb_3]; kernel_rfl) ?_
                refine ls_pick_t (x := (.bool true)) (by kernel_rfl) (by rw [hb_3]; kernel_rfl) (by kernel_rfl) ?_
                refine ls_nil ?_
                refine then_normal ?_
                exact ⟨(fun i => ([undef, undef, undef]).getD i undef), (.bool true), by kernel_rfl, HA_14, H⟩
              · rintro _ w_15 ⟨D_4, x66, rfl, HA_15, H⟩
                refine ls_move (x := x66) (by kernel_rfl) (by kernel_rfl) ?_
                refine ls_and [(), (), (), (), (), (), (), (), ()] (fun K a w => ∃ (D_5 : Nat → Value) (x76 : Value), a = ⟨([x0, x1, x2, x3, x4, x5, x6, x7, undef, undef, (.bool false), x16, x22, x13, x14, x15, x16, x16, x18, x16, x20, x21, x22, x16, x24, x25, x26, x22, x28, x28, (D 0), (D 1), x32, x32, (D_1 0), (D_1 1), x36, x14, x38, (D_2 2), (D_2 3), (D_2 4), (D_2 5), (D_2 6), (D_2 7), (D_2 8), (D_2 9), (D_2 10), (D_2 11), (D_2 12)] ++ [(D_2 13), x16, x3, x53, x54, x4, x56, x57, x58, x59, x60, x61, x61, (D_4 0), (D_4 1), (D_4 2), x66, x66, (D_5 0), (D_5 1), (D_5 2), (D_5 3), (D_5 4), (D_5 5), (D_5 6), (D_5 7), x76, undef, undef, undef]).toArray, []⟩ ∧ At w0 w h_11 ∧ K x76) H (fun hb_1 H => ?_) (fun hb_1 H => ?_) ?_
                · refine ls_y (d := some 68) (by kernel_rfl) (by rw [hb_1]; kernel_rfl) HA_15 (y_ldn Try.isAgg27 Try.sizeOf27 (by kernel_rfl) H) (fun x68 H => ?_)
                  refine ls_p (d := some 69) (by kernel_rfl) (by rw [hb_1]; kernel_rfl) (p_lit (pl := [(0, 1), (1, 3)]) Try.zeroValue27 Try.underlying27 ⟨(by kernel_rfl), Try.sizeOf21, (by kernel_rfl), Try.sizeOf25, trivial⟩ (by kernel_rfl) (by kernel_rfl) H) (fun x69 H => ?_)
                  refine ls_p (d := some 70) (by kernel_rfl) (by rw [hb_1]; kernel_rfl) (p_eqlAgg (eqT_27) (by kernel_rfl) (by kernel_rfl) H) (fun x70 H => ?_)
                  refine ls_move (x := x70) (by rw [hb_1]; kernel_rfl) (by kernel_rfl) ?_
                  refine ls_or [(), (), (), ()] (fun K a w => ∃ (D_7 : Nat → Value) (x75 : Value), a = ⟨([x0, x1, x2, x3, x4, x5, x6, x7, undef, undef, (.bool false), x16, x22, x13, x14, x15, x16, x16, x18, x16, x20, x21, x22, x16, x24, x25, x26, x22, x28, x28, (D 0), (D 1), x32, x32, (D_1 0), (D_1 1), x36, x14, x38, (D_2 2), (D_2 3), (D_2 4), (D_2 5), (D_2 6), (D_2 7), (D_2 8), (D_2 9), (D_2 10), (D_2 11), (D_2 12)] ++ [(D_2 13), x16, x3, x53, x54, x4, x56, x57, x58, x59, x60, x61, x61, (D_4 0), (D_4 1), (D_4 2), x66, x66, x68, x69, x70, x70, (D_7 0), (D_7 1), (D_7 2), x75, undef, undef, undef, undef]).toArray, []⟩ ∧ At w0 w h_11 ∧ K x75) H (fun hb_2 H => ?_) (fun hb_2 H => ?_) ?_
                  · refine ls_move (x := x13) (by rw [hb_2]; kernel_rfl) (by kernel_rfl) ?_
                    refine ls_fr (b := ⟨([x0, x1, x2, x3, x4, x5, x6, x7, undef, undef, (.bool false), x16, x22, x13, x14, x15, x16, x16, x18, x16, x20, x21, x22, x16, x24, x25, x26, x22, x28, x28, (D 0), (D 1), x32, x32, (D_1 0), (D_1 1), x36, x14, x38, (D_2 2), (D_2 3), (D_2 4), (D_2 5), (D_2 6), (D_2 7), (D_2 8), (D_2 9), (D_2 10), (D_2 11), (D_2 12)] ++ [(D_2 13), x16, x3, x53, x54, x4, x56, x57, x58, x59, x60, x61, x61, (D_4 0), (D_4 1), (D_4 2), x66, x66, x68, x69, x70, x70, x13, undef, undef, undef, undef, undef, undef, undef]).toArray, []⟩) (by kernel_rfl) ?_
                    refine ls_move (x := x22) (by rw [hb_2]; kernel_rfl) (by kernel_rfl) ?_
                    refine ls_p (d := some 74) (by kernel_rfl) (by rw [hb_2]; kernel_rfl) (p_sEq (by kernel_rfl) (by kernel_rfl) H) (fun x74 H => ?_)
                    refine ls_pick_f (y := x74) (by rw [hb_1]; kernel_rfl) (by rw [hb_2]; kernel_rfl) (by kernel_rfl) ?_
                    refine ls_nil ?_
                    refine then_normal ?_
                    exact ⟨(fun i => ([x13, x22, x74]).getD i undef), x74, by kernel_rfl, HA_15, H⟩
                  · refine ls_skip (d := some 72) (by kernel_rfl) (by rw [hb_2]; kernel_rfl) ?_
                    refine ls_fr (b := ⟨([x0, x1, x2, x3, x4, x5, x6, x7, undef, undef, (.bool false), x16, x22, x13, x14, x15, x16, x16, x18, x16, x20, x21, x22, x16, x24, x25, x26, x22, x28, x28, (D 0), (D 1), x32, x32, (D_1 0), (D_1 1), x36, x14, x38, (D_2 2), (D_2 3), (D_2 4), (D_2 5), (D_2 6), (D_2 7), (D_2 8), (D_2 9), (D_2 10), (D_2 11), (D_2 12)] ++ [(D_2 13), x16, x3, x53, x54, x4, x56, x57, x58, x59, x60, x61, x61, (D_4 0), (D_4 1), (D_4 2), x66, x66, x68, x69, x70, x70, undef, undef, undef, undef, undef, undef, undef, undef]).toArray, []⟩) (by kernel_rfl) ?_
                    refine ls_skip (d := some 73) (by kernel_rfl) (by rw [hb_2]; kernel_rfl) ?_
                    refine ls_skip (d := some 74) (by kernel_rfl) (by rw [hb_2]; kernel_rfl) ?_
                    refine ls_pick_t (x := (.bool true)) (by rw [hb_1]; kernel_rfl) (by rw [hb_2]; kernel_rfl) (by kernel_rfl) ?_
                    refine ls_nil ?_
                    refine then_normal ?_
                    exact ⟨(fun i => ([undef, undef, undef]).getD i undef), (.bool true), by kernel_rfl, HA_15, H⟩
                  · rintro _ w_19 ⟨D_7, x75, rfl, HA_19, H⟩
                    refine ls_pick_t (x := x75) (by kernel_rfl) (by rw [hb_1]; kernel_rfl) (by kernel_rfl) ?_
                    refine ls_nil ?_
                    refine then_normal ?_
                    exact ⟨(fun i => ([x68, x69, x70, x70, (D_7 0), (D_7 1), (D_7 2), x75]).getD i undef), x75, by kernel_rfl, HA_19, H⟩
                · refine ls_skip (d := some 68) (by kernel_rfl) (by rw [hb_1]; kernel_rfl) ?_
                  refine ls_skip (d := some 69) (by kernel_rfl) (by rw [hb_1]; kernel_rfl) ?_
                  refine ls_skip (d := some 70) (by kernel_rfl) (by rw [hb_1]; kernel_rfl) ?_
                  refine ls_skip (d := some 71) (by kernel_rfl) (by rw [hb_1]; kernel_rfl) ?_
                  refine ls_skip (d := some 72) (by kernel_rfl) (by kernel_rfl) ?_
                  refine ls_fr (b := ⟨([x0, x1, x2, x3, x4, x5, x6, x7, undef, undef, (.bool false), x16, x22, x13, x14, x15, x16, x16, x18, x16, x20, x21, x22, x16, x24, x25, x26, x22, x28, x28, (D 0), (D 1), x32, x32, (D_1 0), (D_1 1), x36, x14, x38, (D_2 2), (D_2 3), (D_2 4), (D_2 5), (D_2 6), (D_2 7), (D_2 8), (D_2 9), (D_2 10), (D_2 11), (D_2 12)] ++ [(D_2 13), x16, x3, x53, x54, x4, x56, x57, x58, x59, x60, x61, x61, (D_4 0), (D_4 1), (D_4 2), x66, x66, undef, undef, undef, undef, undef, undef, undef, undef, undef, undef, undef, undef]).toArray, []⟩) (by kernel_rfl) ?_
                  refine ls_skip (d := some 73) (by kernel_rfl) (by kernel_rfl) ?_
                  refine ls_skip (d := some 74) (by kernel_rfl) (by kernel_rfl) ?_
                  refine ls_skip (d := some 75) (by kernel_rfl) (by rw [hb_1]; kernel_rfl) ?_
                  refine ls_pick_f (y := (.bool false)) (by kernel_rfl) (by rw [hb_1]; kernel_rfl) (by kernel_rfl) ?_
                  refine ls_nil ?_
                  refine then_normal ?_
                  exact ⟨(fun i => ([undef, undef, undef, undef, undef, undef, undef, undef]).getD i undef), (.bool false), by kernel_rfl, HA_15, H⟩
                · rintro _ w_16 ⟨D_5, x76, rfl, HA_16, H⟩
                  refine ls_move (x := x76) (by kernel_rfl) (by kernel_rfl) ?_
                  refine ls_andh [(), ()] (fun K a w => ∃ (D_6 : Nat → Value) (x79 : Value) (h_12 : Heap), a = ⟨([x0, x1, x2, x3, x4, x5, x6, x7, undef, undef, (.bool false), x16, x22, x13, x14, x15, x16, x16, x18, x16, x20, x21, x22, x16, x24, x25, x26, x22, x28, x28, (D 0), (D 1), x32, x32, (D_1 0), (D_1 1), x36, x14, x38, (D_2 2), (D_2 3), (D_2 4), (D_2 5), (D_2 6), (D_2 7), (D_2 8), (D_2 9), (D_2 10), (D_2 11), (D_2 12)] ++ [(D_2 13), x16, x3, x53, x54, x4, x56, x57, x58, x59, x60, x61, x61, (D_4 0), (D_4 1), (D_4 2), x66, x66, (D_5 0), (D_5 1), (D_5 2), (D_5 3), (D_5 4), (D_5 5), (D_5 6), (D_5 7), x76, x76, (D_6 0), x79]).toArray, []⟩ ∧ At w0 w h_12 ∧ K x79 h_12) H (fun hb H => ?_) (fun hb H => ?_) ?_
                  · refine ls_d (d := some 78) (by kernel_rfl) (by rw [hb]; kernel_rfl) HA_16 (d_call (by kernel_rfl) (by kernel_rfl) H) (fun x78 h_13 w_18 H HA_18 => ?_)
                    refine ls_pick_t (x := x78) (by kernel_rfl) (by rw [hb]; kernel_rfl) (by kernel_rfl) ?_
                    refine ls_nil ?_
                    refine then_normal ?_
                    exact ⟨(fun i => ([x78]).getD i undef), x78, h_13, by kernel_rfl, HA_18, H⟩
                  · refine ls_skip (d := some 78) (by kernel_rfl) (by rw [hb]; kernel_rfl) ?_
                    refine ls_pick_f (y := (.bool false)) (by kernel_rfl) (by rw [hb]; kernel_rfl) (by kernel_rfl) ?_
                    refine ls_nil ?_
                    refine then_normal ?_
                    exact ⟨(fun i => ([undef]).getD i undef), (.bool false), h_11, by kernel_rfl, HA_16, H⟩
                  · rintro _ w_17 ⟨D_6, x79, h_12, rfl, HA_17, H⟩
                    refine ls_assign (x := x79) (by kernel_rfl) (by kernel_rfl) ?_
                    refine ls_nil ?_
                    refine then_normal ?_
                    refine fr_eq (b := ⟨([x0, x1, x2, x3, x4, x5, x6, x7, undef, undef, x79, x16, x22, x13, x14, x15, x16, x16, x18, x16, x20, x21, x22, x16, x24, x25, x26, x22, x28, x28, (D 0), (D 1), x32, x32, (D_1 0), (D_1 1), x36, x14, x38, (D_2 2), (D_2 3), (D_2 4), (D_2 5), (D_2 6), (D_2 7), (D_2 8), (D_2 9), (D_2 10), (D_2 11), (D_2 12)] ++ [(D_2 13), x16, x3, x53, x54, x4, x56, x57, x58, x59, x60, x61, x61, (D_4 0), (D_4 1), (D_4 2), x66, x66, (D_5 0), (D_5 1), (D_5 2), (D_5 3), (D_5 4), (D_5 5), (D_5 6), (D_5 7), x76, x76, (D_6 0), x79]).toArray, []⟩) (by kernel_rfl) ?_
                    refine wp_ret ?_
                    exact end1 (Try.results3) (by kernel_rfl) (by kernel_rfl) HA_17 H _ (.inr rfl)

end Go.Proofs.Ythhpieidlpjbmaa
