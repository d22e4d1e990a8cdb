/- The shallow reading of one function, and that the function does it. Written by a program. -/
import Derived.Test.YtecoejjpdogklaaFnC
set_option linter.unusedVariables false
namespace Go.Proofs.Ytecoejjpdogklaa
open Go Go.HW

def betonylaw04_RectCells_j2 (next : Value → Value → Heap → Prop) (x11 x9_1 : Value) (h_7 : Heap) : Prop :=
  sAdd .i64 x11 (.int .i64 1) fun x46 =>
  next x9_1 x46 h_7
def betonylaw04_RectCells_j3 (R : Value → Heap → Prop) (x2 x3 x4 x9_2 : Value) (h_11 : Heap) : Prop :=
  sLdN h_11 x4 4 fun x64 =>
  betonyref04_In_c x64 x2 x3 h_11 fun x67 h_12 => 
  sLdN h_12 x4 4 fun x68 =>
  rect_In_c x68 x2 x3 h_12 fun x71 h_13 => 
  sEqlB x71 x67 fun x73 =>
  sAnd x73 (fun k_2 =>
  sEq x9_2 (.int .i64 1) fun x76 =>
  sEqlB x76 x67 fun x78 =>
  k_2 x78) fun x79 =>
  sAnd x79 (fun k_1 =>
  sEq x9_2 (.int .i64 0) fun x82 =>
  sNot x67 fun x84 =>
  sEqlB x82 x84 fun x85 =>
  k_1 x85) fun x86 =>
  sAndH x86 h_13 (fun k =>
  betonylaw04_awake_c  h_13 fun x88 h_15 => 
  k x88 h_15) fun x89 h_14 =>
  R x89 h_14
def betonylaw04_RectCells_l1 (R : Value → Heap → Prop) (x2 x3 x4 x5 x40 : Value) (next : Value → Value → Heap → Prop) (x9 x11 : Value) (h_6 : Heap) : Prop :=
  sLen x40 fun x43 =>
  sLt x11 x43 fun x44 =>
  sIf x44 (sIxS x40 x11 4 fun x49 =>
  sLdN h_6 x49 4 fun x50 =>
  rect_In_c x50 x2 x3 h_6 fun x53 h_8 => 
  sIf x53 (sAdd .i64 x9 (.int .i64 1) fun x55 =>
  betonylaw04_RectCells_j2 next x11 x55 h_8) (betonylaw04_RectCells_j2 next x11 x9 h_8)) (sLdN h_6 x4 4 fun x56 =>
  sLdN h_6 x5 4 fun x57 =>
  rect_Both_c x56 x57 h_6 fun x58 h_9 => 
  rect_In_c x58 x2 x3 h_9 fun x61 h_10 => 
  sIf x61 (sAdd .i64 x9 (.int .i64 1) fun x63 =>
  betonylaw04_RectCells_j3 R x2 x3 x4 x63 h_10) (betonylaw04_RectCells_j3 R x2 x3 x4 x9 h_10))
def betonylaw04_RectCells_S (x0 x1 x2 x3 : Value) (h : Heap) (R : Value → Heap → Prop) : Prop :=
  sBox h x0 35 fun x4 h => 
  sBox h x1 35 fun x5 h_1 => 
  sLdN h_1 x4 4 fun x13 =>
  betonyref04_Right_c x13 h_1 fun x14 h_2 => 
  sNot x14 fun x15 =>
  sOrH x15 h_2 (fun k_7 =>
  sLdN h_2 x5 4 fun x17 =>
  betonyref04_Right_c x17 h_2 fun x18 h_16 => 
  sNot x18 fun x19 =>
  k_7 x19 h_16) fun x20 h_3 =>
  sOr x20 (fun k_6 =>
  sLt x2 (.int .i64 (-1099511627776)) fun x23 =>
  k_6 x23) fun x24 =>
  sOr x24 (fun k_5 =>
  sGt x2 (.int .i64 1099511627776) fun x27 =>
  k_5 x27) fun x28 =>
  sOr x28 (fun k_4 =>
  sLt x3 (.int .i64 (-1099511627776)) fun x31 =>
  k_4 x31) fun x32 =>
  sOr x32 (fun k_3 =>
  sGt x3 (.int .i64 1099511627776) fun x35 =>
  k_3 x35) fun x36 =>
  sIf x36 (betonylaw04_awake_c  h_3 fun x37 h_4 => 
  R x37 h_4) (sLdN h_3 x4 4 fun x38 =>
  sLdN h_3 x5 4 fun x39 =>
  rect_Less_c x38 x39 h_3 fun x40 h_5 => 
  sLoop (S := Value × Value) (fun nxt s h => betonylaw04_RectCells_l1 R x2 x3 x4 x5 x40 (fun x9' x11' h => nxt (x9', x11') h) s.1 s.2 h) ((.int .i64 0), (.int .i64 0)) h_5)
set_option maxRecDepth 100000 in
theorem betonylaw04_RectCells_runs {x0 x1 x2 x3 : Value} {h : Heap} {R : Value → Heap → Prop} (H : betonylaw04_RectCells_S x0 x1 x2 x3 h R) : betonylaw04_RectCells_c x0 x1 x2 x3 h R := by
  unfold betonylaw04_RectCells_S at H
  refine runs_of (b := ⟨([x0, x1, x2, x3, undef, undef, undef, undef, undef, undef, undef, undef, undef, undef, undef, undef, undef, undef, undef, undef, undef, undef, undef, undef, undef, undef, undef, undef, undef, undef, undef, undef, undef, undef, undef, undef, undef, undef, undef, undef, undef, undef, undef, undef, undef, undef, undef, undef, undef, undef] ++ [undef, undef, undef, undef, undef, undef, undef, undef, undef, undef, undef, undef, undef, undef, undef, undef, undef, undef, undef, undef, undef, undef, undef, undef, undef, undef, undef, undef, undef, undef, undef, undef, undef, undef, undef, undef, undef, undef, undef, undef]).toArray, []⟩) Try.call6 Try.func6 rfl (by kernel_rfl) (fun w0 HA => ?_)
  refine wp_seq ?_
  refine lwp_list ?_
  refine ls_d (d := some 4) (by kernel_rfl) (by kernel_rfl) HA (d_box (by kernel_rfl) H) (fun x4 h w H HA => ?_)
  refine ls_d (d := some 5) (by kernel_rfl) (by kernel_rfl) HA (d_box (by kernel_rfl) H) (fun x5 h_1 w_1 H HA_1 => ?_)
  refine ls_assign (x := (.bool false)) (by kernel_rfl) (by kernel_rfl) ?_
  refine ls_nil ?_
  refine then_normal ?_
  refine fr_eq (b := ⟨([x0, x1, x2, x3, x4, x5, undef, undef, (.bool false), undef, undef, undef, undef, undef, undef, undef, undef, undef, undef, undef, undef, undef, undef, undef, undef, undef, undef, undef, undef, undef, undef, undef, undef, undef, undef, undef, undef, undef, undef, undef, undef, undef, undef, undef, undef, undef, undef, undef, undef, undef] ++ [undef, undef, undef, undef, undef, undef, undef, undef, undef, undef, undef, undef, undef, undef, undef, undef, undef, undef, undef, undef, undef, undef, undef, undef, undef, undef, undef, undef, undef, undef, undef, undef, undef, undef, undef, undef, undef, undef, undef, undef]).toArray, []⟩) (by kernel_rfl) ?_
  refine wp_seq ?_
  refine wp_seq ?_
  refine lwp_list ?_
  refine ls_y (d := some 13) (by kernel_rfl) (by kernel_rfl) HA_1 (y_ldn Try.isAgg35 Try.sizeOf35 (by kernel_rfl) H) (fun x13 H => ?_)
  refine ls_d (d := some 14) (by kernel_rfl) (by kernel_rfl) HA_1 (d_call (by kernel_rfl) (by kernel_rfl) H) (fun x14 h_2 w_2 H HA_2 => ?_)
  refine ls_p (d := some 15) (by kernel_rfl) (by kernel_rfl) (p_not (by kernel_rfl) H) (fun x15 H => ?_)
  refine ls_move (x := x15) (by kernel_rfl) (by kernel_rfl) ?_
  refine ls_orh [(), (), (), ()] (fun K a w => ∃ (D : Nat → Value) (x20 : Value) (h_3 : Heap), a = ⟨([x0, x1, x2, x3, x4, x5, undef, undef, (.bool false), undef, undef, undef, undef, x13, x14, x15, x15, (D 0), (D 1), (D 2), x20, undef, undef, undef, undef, undef, undef, undef, undef, undef, undef, undef, undef, undef, undef, undef, undef, undef, undef, undef, undef, undef, undef, undef, undef, undef, undef, undef, undef, undef] ++ [undef, undef, undef, undef, undef, undef, undef, undef, undef, undef, undef, undef, undef, undef, undef, undef, undef, undef, undef, undef, undef, undef, undef, undef, undef, undef, undef, undef, undef, undef, undef, undef, undef, undef, undef, undef, undef, undef, undef, undef]).toArray, []⟩ ∧ At w0 w h_3 ∧ K x20 h_3) H (fun hb_7 H => ?_) (fun hb_7 H => ?_) ?_
  · refine ls_y (d := some 17) (by kernel_rfl) (by rw [hb_7]; kernel_rfl) HA_2 (y_ldn Try.isAgg35 Try.sizeOf35 (by kernel_rfl) H) (fun x17 H => ?_)
    refine ls_d (d := some 18) (by kernel_rfl) (by rw [hb_7]; kernel_rfl) HA_2 (d_call (by kernel_rfl) (by kernel_rfl) H) (fun x18 h_16 w_22 H HA_22 => ?_)
    refine ls_fr (b := ⟨([x0, x1, x2, x3, x4, x5, undef, undef, (.bool false), undef, undef, undef, undef, x13, x14, x15, x15, x17, x18, undef, undef, undef, undef, undef, undef, undef, undef, undef, undef, undef, undef, undef, undef, undef, undef, undef, undef, undef, undef, undef, undef, undef, undef, undef, undef, undef, undef, undef, undef, undef] ++ [undef, undef, undef, undef, undef, undef, undef, undef, undef, undef, undef, undef, undef, undef, undef, undef, undef, undef, undef, undef, undef, undef, undef, undef, undef, undef, undef, undef, undef, undef, undef, undef, undef, undef, undef, undef, undef, undef, undef, undef]).toArray, []⟩) (by kernel_rfl) ?_
    refine ls_p (d := some 19) (by kernel_rfl) (by rw [hb_7]; kernel_rfl) (p_not (by kernel_rfl) H) (fun x19 H => ?_)
    refine ls_pick_f (y := x19) (by kernel_rfl) (by rw [hb_7]; kernel_rfl) (by kernel_rfl) ?_
    refine ls_nil ?_
    refine then_normal ?_
    exact ⟨(fun i => ([x17, x18, x19]).getD i undef), x19, h_16, by kernel_rfl, HA_22, H⟩
  · refine ls_skip (d := some 17) (by kernel_rfl) (by rw [hb_7]; kernel_rfl) ?_
    refine ls_skip (d := some 18) (by kernel_rfl) (by rw [hb_7]; kernel_rfl) ?_
    refine ls_fr (b := ⟨([x0, x1, x2, x3, x4, x5, undef, undef, (.bool false), undef, undef, undef, undef, x13, x14, x15, x15, undef, undef, undef, undef, undef, undef, undef, undef, undef, undef, undef, undef, undef, undef, undef, undef, undef, undef, undef, undef, undef, undef, undef, undef, undef, undef, undef, undef, undef, undef, undef, undef, undef] ++ [undef, undef, undef, undef, undef, undef, undef, undef, undef, undef, undef, undef, undef, undef, undef, undef, undef, undef, undef, undef, undef, undef, undef, undef, undef, undef, undef, undef, undef, undef, undef, undef, undef, undef, undef, undef, undef, undef, undef, undef]).toArray, []⟩) (by kernel_rfl) ?_
    refine ls_skip (d := some 19) (by kernel_rfl) (by rw [hb_7]; kernel_rfl) ?_
    refine ls_pick_t (x := (.bool true)) (by kernel_rfl) (by rw [hb_7]; kernel_rfl) (by kernel_rfl) ?_
    refine ls_nil ?_
    refine then_normal ?_
    exact ⟨(fun i => ([undef, undef, undef]).getD i undef), (.bool true), h_2, by kernel_rfl, HA_2, H⟩
  · rintro _ w_3 ⟨D, x20, h_3, rfl, HA_3, H⟩
    refine ls_move (x := x20) (by kernel_rfl) (by kernel_rfl) ?_
    refine ls_or [(), (), ()] (fun K a w => ∃ (D_1 : Nat → Value) (x24 : Value), a = ⟨([x0, x1, x2, x3, x4, x5, undef, undef, (.bool false), undef, undef, undef, undef, x13, x14, x15, x15, (D 0), (D 1), (D 2), x20, x20, (D_1 0), (D_1 1), x24, undef, undef, undef, undef, undef, undef, undef, undef, undef, undef, undef, undef, undef, undef, undef, undef, undef, undef, undef, undef, undef, undef, undef, undef, undef] ++ [undef, undef, undef, undef, undef, undef, undef, undef, undef, undef, undef, undef, undef, undef, undef, undef, undef, undef, undef, undef, undef, undef, undef, undef, undef, undef, undef, undef, undef, undef, undef, undef, undef, undef, undef, undef, undef, undef, undef, undef]).toArray, []⟩ ∧ At w0 w h_3 ∧ K x24) H (fun hb_6 H => ?_) (fun hb_6 H => ?_) ?_
    · refine ls_move (x := x2) (by rw [hb_6]; kernel_rfl) (by kernel_rfl) ?_
      refine ls_p (d := some 23) (by kernel_rfl) (by rw [hb_6]; kernel_rfl) (p_sLt (by kernel_rfl) (by kernel_rfl) H) (fun x23 H => ?_)
      refine ls_pick_f (y := x23) (by kernel_rfl) (by rw [hb_6]; kernel_rfl) (by kernel_rfl) ?_
      refine ls_nil ?_
      refine then_normal ?_
      exact ⟨(fun i => ([x2, x23]).getD i undef), x23, by kernel_rfl, HA_3, H⟩
    · refine ls_skip (d := some 22) (by kernel_rfl) (by rw [hb_6]; kernel_rfl) ?_
      refine ls_skip (d := some 23) (by kernel_rfl) (by rw [hb_6]; kernel_rfl) ?_
      refine ls_pick_t (x := (.bool true)) (by kernel_rfl) (by rw [hb_6]; kernel_rfl) (by kernel_rfl) ?_
      refine ls_nil ?_
      refine then_normal ?_
      exact ⟨(fun i => ([undef, undef]).getD i undef), (.bool true), by kernel_rfl, HA_3, H⟩
    · rintro _ w_4 ⟨D_1, x24, rfl, HA_4, H⟩
      refine ls_move (x := x24) (by kernel_rfl) (by kernel_rfl) ?_
      refine ls_or [(), (), ()] (fun K a w => ∃ (D_2 : Nat → Value) (x28 : Value), a = ⟨([x0, x1, x2, x3, x4, x5, undef, undef, (.bool false), undef, undef, undef, undef, x13, x14, x15, x15, (D 0), (D 1), (D 2), x20, x20, (D_1 0), (D_1 1), x24, x24, (D_2 0), (D_2 1), x28, undef, undef, undef, undef, undef, undef, undef, undef, undef, undef, undef, undef, undef, undef, undef, undef, undef, undef, undef, undef, undef] ++ [undef, undef, undef, undef, undef, undef, undef, undef, undef, undef, undef, undef, undef, undef, undef, undef, undef, undef, undef, undef, undef, undef, undef, undef, undef, undef, undef, undef, undef, undef, undef, undef, undef, undef, undef, undef, undef, undef, undef, undef]).toArray, []⟩ ∧ At w0 w h_3 ∧ K x28) H (fun hb_5 H => ?_) (fun hb_5 H => ?_) ?_
      · refine ls_move (x := x2) (by rw [hb_5]; kernel_rfl) (by kernel_rfl) ?_
        refine ls_p (d := some 27) (by kernel_rfl) (by rw [hb_5]; kernel_rfl) (p_sGt (by kernel_rfl) (by kernel_rfl) H) (fun x27 H => ?_)
        refine ls_pick_f (y := x27) (by kernel_rfl) (by rw [hb_5]; kernel_rfl) (by kernel_rfl) ?_
        refine ls_nil ?_
        refine then_normal ?_
        exact ⟨(fun i => ([x2, x27]).getD i undef), x27, by kernel_rfl, HA_4, H⟩
      · refine ls_skip (d := some 26) (by kernel_rfl) (by rw [hb_5]; kernel_rfl) ?_
        refine ls_skip (d := some 27) (by kernel_rfl) (by rw [hb_5]; kernel_rfl) ?_
        refine ls_pick_t (x := (.bool true)) (by kernel_rfl) (by rw [hb_5]; kernel_rfl) (by kernel_rfl) ?_
        refine ls_nil ?_
        refine then_normal ?_
        exact ⟨(fun i => ([undef, undef]).getD i undef), (.bool true), by kernel_rfl, HA_4, H⟩
      · rintro _ w_5 ⟨D_2, x28, rfl, HA_5, H⟩
        refine ls_move (x := x28) (by kernel_rfl) (by kernel_rfl) ?_
        refine ls_or [(), (), ()] (fun K a w => ∃ (D_3 : Nat → Value) (x32 : Value), a = ⟨([x0, x1, x2, x3, x4, x5, undef, undef, (.bool false), undef, undef, undef, undef, x13, x14, x15, x15, (D 0), (D 1), (D 2), x20, x20, (D_1 0), (D_1 1), x24, x24, (D_2 0), (D_2 1), x28, x28, (D_3 0), (D_3 1), x32, undef, undef, undef, undef, undef, undef, undef, undef, undef, undef, undef, undef, undef, undef, undef, undef, undef] ++ [undef, undef, undef, undef, undef, undef, undef, undef, undef, undef, undef, undef, undef, undef, undef, undef, undef, undef, undef, undef, undef, undef, undef, undef, undef, undef, undef, undef, undef, undef, undef, undef, undef, undef, undef, undef, undef, undef, undef, undef]).toArray, []⟩ ∧ At w0 w h_3 ∧ K x32) H (fun hb_4 H => ?_) (fun hb_4 H => ?_) ?_
        · refine ls_move (x := x3) (by rw [hb_4]; kernel_rfl) (by kernel_rfl) ?_
          refine ls_p (d := some 31) (by kernel_rfl) (by rw [hb_4]; kernel_rfl) (p_sLt (by kernel_rfl) (by kernel_rfl) H) (fun x31 H => ?_)
          refine ls_pick_f (y := x31) (by kernel_rfl) (by rw [hb_4]; kernel_rfl) (by kernel_rfl) ?_
          refine ls_nil ?_
          refine then_normal ?_
          exact ⟨(fun i => ([x3, x31]).getD i undef), x31, by kernel_rfl, HA_5, H⟩
        · refine ls_skip (d := some 30) (by kernel_rfl) (by rw [hb_4]; kernel_rfl) ?_
          refine ls_skip (d := some 31) (by kernel_rfl) (by rw [hb_4]; kernel_rfl) ?_
          refine ls_pick_t (x := (.bool true)) (by kernel_rfl) (by rw [hb_4]; kernel_rfl) (by kernel_rfl) ?_
          refine ls_nil ?_
          refine then_normal ?_
          exact ⟨(fun i => ([undef, undef]).getD i undef), (.bool true), by kernel_rfl, HA_5, H⟩
        · rintro _ w_6 ⟨D_3, x32, rfl, HA_6, H⟩
          refine ls_move (x := x32) (by kernel_rfl) (by kernel_rfl) ?_
          refine ls_or [(), (), ()] (fun K a w => ∃ (D_4 : Nat → Value) (x36 : Value), a = ⟨([x0, x1, x2, x3, x4, x5, undef, undef, (.bool false), undef, undef, undef, undef, x13, x14, x15, x15, (D 0), (D 1), (D 2), x20, x20, (D_1 0), (D_1 1), x24, x24, (D_2 0), (D_2 1), x28, x28, (D_3 0), (D_3 1), x32, x32, (D_4 0), (D_4 1), x36, undef, undef, undef, undef, undef, undef, undef, undef, undef, undef, undef, undef, undef] ++ [undef, undef, undef, undef, undef, undef, undef, undef, undef, undef, undef, undef, undef, undef, undef, undef, undef, undef, undef, undef, undef, undef, undef, undef, undef, undef, undef, undef, undef, undef, undef, undef, undef, undef, undef, undef, undef, undef, undef, undef]).toArray, []⟩ ∧ At w0 w h_3 ∧ K x36) H (fun hb_3 H => ?_) (fun hb_3 H => ?_) ?_
          · refine ls_move (x := x3) (by rw [hb_3]; kernel_rfl) (by kernel_rfl) ?_
            refine ls_p (d := some 35) (by kernel_rfl) (by rw [hb_3]; kernel_rfl) (p_sGt (by kernel_rfl) (by kernel_rfl) H) (fun x35 H => ?_)
            refine ls_pick_f (y := x35) (by kernel_rfl) (by rw [hb_3]; kernel_rfl) (by kernel_rfl) ?_
            refine ls_nil ?_
            refine then_normal ?_
            exact ⟨(fun i => ([x3, x35]).getD i undef), x35, by kernel_rfl, HA_6, H⟩
          · refine ls_skip (d := some 34) (by kernel_rfl) (by rw [hb_3]; kernel_rfl) ?_
            refine ls_skip (d := some 35) (by kernel_rfl) (by rw [hb_3]; kernel_rfl) ?_
            refine ls_pick_t (x := (.bool true)) (by kernel_rfl) (by rw [hb_3]; kernel_rfl) (by kernel_rfl) ?_
            refine ls_nil ?_
            refine then_normal ?_
            exact ⟨(fun i => ([undef, undef]).getD i undef), (.bool true), by kernel_rfl, HA_6, H⟩
          · rintro _ w_7 ⟨D_4, x36, rfl, HA_7, H⟩
            refine ls_nil ?_
            refine then_normal ?_
            refine fr_eq (b := ⟨([x0, x1, x2, x3, x4, x5, undef, undef, (.bool false), undef, undef, undef, undef, x13, x14, x15, x15, (D 0), (D 1), (D 2), x20, x20, (D_1 0), (D_1 1), x24, x24, (D_2 0), (D_2 1), x28, x28, (D_3 0), (D_3 1), x32, x32, (D_4 0), (D_4 1), x36, undef, undef, undef, undef, undef, undef, undef, undef, undef, undef, undef, undef, undef] ++ [undef, undef, undef, undef, undef, undef, undef, undef, undef, undef, undef, undef, undef, undef, undef, undef, undef, undef, undef, undef, undef, undef, undef, undef, undef, undef, undef, undef, undef, undef, undef, undef, undef, undef, undef, undef, undef, undef, undef, undef]).toArray, []⟩) (by kernel_rfl) ?_
            refine wp_if rfl H (fun H => ?_) (fun H => ?_)
            · refine wp_seq ?_
              refine lwp_list ?_
              refine ls_d (d := some 37) (by kernel_rfl) (by kernel_rfl) HA_7 (d_call (by kernel_rfl) (by kernel_rfl) H) (fun x37 h_4 w_8 H HA_8 => ?_)
              refine ls_assign (x := x37) (by kernel_rfl) (by kernel_rfl) ?_
              refine ls_nil ?_
              refine then_normal ?_
              refine fr_eq (b := ⟨([x0, x1, x2, x3, x4, x5, undef, undef, x37, undef, undef, undef, undef, x13, x14, x15, x15, (D 0), (D 1), (D 2), x20, x20, (D_1 0), (D_1 1), x24, x24, (D_2 0), (D_2 1), x28, x28, (D_3 0), (D_3 1), x32, x32, (D_4 0), (D_4 1), x36, x37, undef, undef, undef, undef, undef, undef, undef, undef, undef, undef, undef, undef] ++ [undef, undef, undef, undef, undef, undef, undef, undef, undef, undef, undef, undef, undef, undef, undef, undef, undef, undef, undef, undef, undef, undef, undef, undef, undef, undef, undef, undef, undef, undef, undef, undef, undef, undef, undef, undef, undef, undef, undef, undef]).toArray, []⟩) (by kernel_rfl) ?_
              refine wp_ret ?_
              refine then_ret ?_
              exact end1 (Try.results6) (by kernel_rfl) (by kernel_rfl) HA_8 H _ (.inr rfl)
            · refine wp_skip ?_
              refine then_normal ?_
              refine fr_eq (b := ⟨([x0, x1, x2, x3, x4, x5, undef, undef, (.bool false), undef, undef, undef, undef, x13, x14, x15, x15, (D 0), (D 1), (D 2), x20, x20, (D_1 0), (D_1 1), x24, x24, (D_2 0), (D_2 1), x28, x28, (D_3 0), (D_3 1), x32, x32, (D_4 0), (D_4 1), x36, undef, undef, undef, undef, undef, undef, undef, undef, undef, undef, undef, undef, undef] ++ [undef, undef, undef, undef, undef, undef, undef, undef, undef, undef, undef, undef, undef, undef, undef, undef, undef, undef, undef, undef, undef, undef, undef, undef, undef, undef, undef, undef, undef, undef, undef, undef, undef, undef, undef, undef, undef, undef, undef, undef]).toArray, []⟩) (by kernel_rfl) ?_
              refine wp_seq ?_
              refine lwp_list ?_
              refine ls_assign (x := (.int .i64 0)) (by kernel_rfl) (by kernel_rfl) ?_
              refine ls_nil ?_
              refine then_normal ?_
              refine fr_eq (b := ⟨([x0, x1, x2, x3, x4, x5, undef, undef, (.bool false), (.int .i64 0), undef, undef, undef, x13, x14, x15, x15, (D 0), (D 1), (D 2), x20, x20, (D_1 0), (D_1 1), x24, x24, (D_2 0), (D_2 1), x28, x28, (D_3 0), (D_3 1), x32, x32, (D_4 0), (D_4 1), x36, undef, undef, undef, undef, undef, undef, undef, undef, undef, undef, undef, undef, undef] ++ [undef, undef, undef, undef, undef, undef, undef, undef, undef, undef, undef, undef, undef, undef, undef, undef, undef, undef, undef, undef, undef, undef, undef, undef, undef, undef, undef, undef, undef, undef, undef, undef, undef, undef, undef, undef, undef, undef, undef, undef]).toArray, []⟩) (by kernel_rfl) ?_
              refine wp_seq ?_
              refine lwp_list ?_
              refine ls_y (d := some 38) (by kernel_rfl) (by kernel_rfl) HA_7 (y_ldn Try.isAgg35 Try.sizeOf35 (by kernel_rfl) H) (fun x38 H => ?_)
              refine ls_y (d := some 39) (by kernel_rfl) (by kernel_rfl) HA_7 (y_ldn Try.isAgg35 Try.sizeOf35 (by kernel_rfl) H) (fun x39 H => ?_)
              refine ls_d (d := some 40) (by kernel_rfl) (by kernel_rfl) HA_7 (d_call (by kernel_rfl) (by kernel_rfl) H) (fun x40 h_5 w_9 H HA_9 => ?_)
              refine ls_assign (x := x40) (by kernel_rfl) (by kernel_rfl) ?_
              refine ls_nil ?_
              refine then_normal ?_
              refine fr_eq (b := ⟨([x0, x1, x2, x3, x4, x5, undef, undef, (.bool false), (.int .i64 0), x40, undef, undef, x13, x14, x15, x15, (D 0), (D 1), (D 2), x20, x20, (D_1 0), (D_1 1), x24, x24, (D_2 0), (D_2 1), x28, x28, (D_3 0), (D_3 1), x32, x32, (D_4 0), (D_4 1), x36, undef, x38, x39, x40, undef, undef, undef, undef, undef, undef, undef, undef, undef] ++ [undef, undef, undef, undef, undef, undef, undef, undef, undef, undef, undef, undef, undef, undef, undef, undef, undef, undef, undef, undef, undef, undef, undef, undef, undef, undef, undef, undef, undef, undef, undef, undef, undef, undef, undef, undef, undef, undef, undef, undef]).toArray, []⟩) (by kernel_rfl) ?_
              refine wp_seq ?_
              refine wp_seq ?_
              refine lwp_list ?_
              refine ls_assign (x := (.int .i64 0)) (by kernel_rfl) (by kernel_rfl) ?_
              refine ls_nil ?_
              refine then_normal ?_
              refine fr_eq (b := ⟨([x0, x1, x2, x3, x4, x5, undef, undef, (.bool false), (.int .i64 0), x40, (.int .i64 0), undef, x13, x14, x15, x15, (D 0), (D 1), (D 2), x20, x20, (D_1 0), (D_1 1), x24, x24, (D_2 0), (D_2 1), x28, x28, (D_3 0), (D_3 1), x32, x32, (D_4 0), (D_4 1), x36, undef, x38, x39, x40, undef, undef, undef, undef, undef, undef, undef, undef, undef] ++ [undef, undef, undef, undef, undef, undef, undef, undef, undef, undef, undef, undef, undef, undef, undef, undef, undef, undef, undef, undef, undef, undef, undef, undef, undef, undef, undef, undef, undef, undef, undef, undef, undef, undef, undef, undef, undef, undef, undef, undef]).toArray, []⟩) (by kernel_rfl) ?_
              refine wp_block ?_
              obtain ⟨I, m, H0, HB⟩ := H
              refine wp_loop (fun a w => ∃ (D_5 : Nat → Value) (x9 x11 : Value) (h_6 : Heap), a = ⟨([x0, x1, x2, x3, x4, x5, undef, undef, (.bool false), x9, x40, x11, undef, x13, x14, x15, x15, (D 0), (D 1), (D 2), x20, x20, (D_1 0), (D_1 1), x24, x24, (D_2 0), (D_2 1), x28, x28, (D_3 0), (D_3 1), x32, x32, (D_4 0), (D_4 1), x36, undef, x38, x39, x40, (D_5 0), (D_5 1), (D_5 2), (D_5 3), (D_5 4), (D_5 5), (D_5 6), (D_5 7), (D_5 8)] ++ [(D_5 9), (D_5 10), (D_5 11), (D_5 12), (D_5 13), (D_5 14), undef, undef, undef, undef, undef, undef, undef, undef, undef, undef, undef, undef, undef, undef, undef, undef, undef, undef, undef, undef, undef, undef, undef, undef, undef, undef, undef, undef, undef, undef, undef, undef, undef, undef]).toArray, []⟩ ∧ At w0 w h_6 ∧ I (x9, x11) h_6) (fun a w => m ((a.tmps.getD 9 undef), (a.tmps.getD 11 undef)) w.heap) ?_ ?_
              · exact ⟨(fun i => ([undef, undef, undef, undef, undef, undef, undef, undef, undef, undef, undef, undef, undef, undef, undef]).getD i undef), (.int .i64 0), (.int .i64 0), h_5, by kernel_rfl, HA_9, H0⟩
              · rintro _ w_10 ⟨D_5, x9, x11, h_6, rfl, HA_10, HI⟩
                have H : betonylaw04_RectCells_l1 R x2 x3 x4 x5 x40 (fun x9' x11' h' => I (x9', x11') h' ∧ m (x9', x11') h' < m (x9, x11) h_6) x9 x11 h_6 := HB (x9, x11) h_6 HI
                clear HB H0 HI
                unfold betonylaw04_RectCells_l1 at H
                refine wp_seq ?_
                refine wp_seq ?_
                refine lwp_list ?_
                refine ls_move (x := x11) (by kernel_rfl) (by kernel_rfl) ?_
                refine ls_move (x := x40) (by kernel_rfl) (by kernel_rfl) ?_
                refine ls_p (d := some 43) (by kernel_rfl) (by kernel_rfl) (p_len Try.underlying37 (by kernel_rfl) H) (fun x43 H => ?_)
                refine ls_p (d := some 44) (by kernel_rfl) (by kernel_rfl) (p_sLt (by kernel_rfl) (by kernel_rfl) H) (fun x44 H => ?_)
                refine ls_nil ?_
                refine then_normal ?_
                refine fr_eq (b := ⟨([x0, x1, x2, x3, x4, x5, undef, undef, (.bool false), x9, x40, x11, undef, x13, x14, x15, x15, (D 0), (D 1), (D 2), x20, x20, (D_1 0), (D_1 1), x24, x24, (D_2 0), (D_2 1), x28, x28, (D_3 0), (D_3 1), x32, x32, (D_4 0), (D_4 1), x36, undef, x38, x39, x40, x11, x40, x43, x44, (D_5 4), (D_5 5), (D_5 6), (D_5 7), (D_5 8)] ++ [(D_5 9), (D_5 10), (D_5 11), (D_5 12), (D_5 13), (D_5 14), undef, undef, undef, undef, undef, undef, undef, undef, undef, undef, undef, undef, undef, undef, undef, undef, undef, undef, undef, undef, undef, undef, undef, undef, undef, undef, undef, undef, undef, undef, undef, undef, undef, undef]).toArray, []⟩) (by kernel_rfl) ?_
                refine wp_if rfl H (fun H => ?_) (fun H => ?_)
                · refine wp_skip ?_
                  refine then_normal ?_
                  refine fr_eq (b := ⟨([x0, x1, x2, x3, x4, x5, undef, undef, (.bool false), x9, x40, x11, undef, x13, x14, x15, x15, (D 0), (D 1), (D 2), x20, x20, (D_1 0), (D_1 1), x24, x24, (D_2 0), (D_2 1), x28, x28, (D_3 0), (D_3 1), x32, x32, (D_4 0), (D_4 1), x36, undef, x38, x39, x40, x11, x40, x43, x44, (D_5 4), (D_5 5), (D_5 6), (D_5 7), (D_5 8)] ++ [(D_5 9), (D_5 10), (D_5 11), (D_5 12), (D_5 13), (D_5 14), undef, undef, undef, undef, undef, undef, undef, undef, undef, undef, undef, undef, undef, undef, undef, undef, undef, undef, undef, undef, undef, undef, undef, undef, undef, undef, undef, undef, undef, undef, undef, undef, undef, undef]).toArray, []⟩) (by kernel_rfl) ?_
                  refine wp_seq ?_
                  refine wp_join (fun a w => ∃ (D_6 : Nat → Value) (x9_1 : Value) (h_7 : Heap), a = ⟨([x0, x1, x2, x3, x4, x5, undef, undef, (.bool false), x9_1, x40, x11, undef, x13, x14, x15, x15, (D 0), (D 1), (D 2), x20, x20, (D_1 0), (D_1 1), x24, x24, (D_2 0), (D_2 1), x28, x28, (D_3 0), (D_3 1), x32, x32, (D_4 0), (D_4 1), x36, undef, x38, x39, x40, x11, x40, x43, x44, (D_5 4), (D_5 5), (D_6 0), (D_6 1), (D_6 2)] ++ [(D_6 3), (D_6 4), (D_6 5), (D_6 6), (D_6 7), (D_6 8), undef, undef, undef, undef, undef, undef, undef, undef, undef, undef, undef, undef, undef, undef, undef, undef, undef, undef, undef, undef, undef, undef, undef, undef, undef, undef, undef, undef, undef, undef, undef, undef, undef, undef]).toArray, []⟩ ∧ At w0 w h_7 ∧ betonylaw04_RectCells_j2 (fun x9' x11' h' => I (x9', x11') h' ∧ m (x9', x11') h' < m (x9, x11) h_6) x11 x9_1 h_7) ?_ ?_
                  · refine wp_block ?_
                    refine wp_seq ?_
                    refine lwp_list ?_
                    refine ls_move (x := x40) (by kernel_rfl) (by kernel_rfl) ?_
                    refine ls_move (x := x11) (by kernel_rfl) (by kernel_rfl) ?_
                    refine ls_p (d := some 49) (by kernel_rfl) (by kernel_rfl) (p_ixs Try.underlying37 Try.sizeOf35 (by kernel_rfl) (by kernel_rfl) H) (fun x49 H => ?_)
                    refine ls_y (d := some 50) (by kernel_rfl) (by kernel_rfl) HA_10 (y_ldn Try.isAgg35 Try.sizeOf35 (by kernel_rfl) H) (fun x50 H => ?_)
                    refine ls_move (x := x2) (by kernel_rfl) (by kernel_rfl) ?_
                    refine ls_move (x := x3) (by kernel_rfl) (by kernel_rfl) ?_
                    refine ls_fr (b := ⟨([x0, x1, x2, x3, x4, x5, undef, undef, (.bool false), x9, x40, x11, undef, x13, x14, x15, x15, (D 0), (D 1), (D 2), x20, x20, (D_1 0), (D_1 1), x24, x24, (D_2 0), (D_2 1), x28, x28, (D_3 0), (D_3 1), x32, x32, (D_4 0), (D_4 1), x36, undef, x38, x39, x40, x11, x40, x43, x44, (D_5 4), (D_5 5), x40, x11, x49] ++ [x50, x2, x3, (D_5 12), (D_5 13), (D_5 14), undef, undef, undef, undef, undef, undef, undef, undef, undef, undef, undef, undef, undef, undef, undef, undef, undef, undef, undef, undef, undef, undef, undef, undef, undef, undef, undef, undef, undef, undef, undef, undef, undef, undef]).toArray, []⟩) (by kernel_rfl) ?_
                    refine ls_d (d := some 53) (by kernel_rfl) (by kernel_rfl) HA_10 (d_call (by kernel_rfl) (by kernel_rfl) H) (fun x53 h_8 w_12 H HA_12 => ?_)
                    refine ls_nil ?_
                    refine then_normal ?_
                    refine fr_eq (b := ⟨([x0, x1, x2, x3, x4, x5, undef, undef, (.bool false), x9, x40, x11, undef, x13, x14, x15, x15, (D 0), (D 1), (D 2), x20, x20, (D_1 0), (D_1 1), x24, x24, (D_2 0), (D_2 1), x28, x28, (D_3 0), (D_3 1), x32, x32, (D_4 0), (D_4 1), x36, undef, x38, x39, x40, x11, x40, x43, x44, (D_5 4), (D_5 5), x40, x11, x49] ++ [x50, x2, x3, x53, (D_5 13), (D_5 14), undef, undef, undef, undef, undef, undef, undef, undef, undef, undef, undef, undef, undef, undef, undef, undef, undef, undef, undef, undef, undef, undef, undef, undef, undef, undef, undef, undef, undef, undef, undef, undef, undef, undef]).toArray, []⟩) (by kernel_rfl) ?_
                    refine wp_if rfl H (fun H => ?_) (fun H => ?_)
                    · refine lwp_list ?_
                      refine ls_move (x := x9) (by kernel_rfl) (by kernel_rfl) ?_
                      refine ls_p (d := some 55) (by kernel_rfl) (by kernel_rfl) (p_add (by kernel_rfl) (by kernel_rfl) H) (fun x55 H => ?_)
                      refine ls_assign (x := x55) (by kernel_rfl) (by kernel_rfl) ?_
                      refine ls_nil ?_
                      refine block_normal ?_
                      exact ⟨(fun i => ([x40, x11, x49, x50, x2, x3, x53, x9, x55]).getD i undef), x55, h_8, by kernel_rfl, HA_12, H⟩
                    · refine wp_skip ?_
                      refine block_normal ?_
                      exact ⟨(fun i => ([x40, x11, x49, x50, x2, x3, x53, (D_5 13), (D_5 14)]).getD i undef), x9, h_8, by kernel_rfl, HA_12, H⟩
                  · rintro _ w_11 ⟨D_6, x9_1, h_7, rfl, HA_11, H⟩
                    unfold betonylaw04_RectCells_j2 at H
                    refine then_normal ?_
                    refine fr_eq (b := ⟨([x0, x1, x2, x3, x4, x5, undef, undef, (.bool false), x9_1, x40, x11, undef, x13, x14, x15, x15, (D 0), (D 1), (D 2), x20, x20, (D_1 0), (D_1 1), x24, x24, (D_2 0), (D_2 1), x28, x28, (D_3 0), (D_3 1), x32, x32, (D_4 0), (D_4 1), x36, undef, x38, x39, x40, x11, x40, x43, x44, (D_5 4), (D_5 5), (D_6 0), (D_6 1), (D_6 2)] ++ [(D_6 3), (D_6 4), (D_6 5), (D_6 6), (D_6 7), (D_6 8), undef, undef, undef, undef, undef, undef, undef, undef, undef, undef, undef, undef, undef, undef, undef, undef, undef, undef, undef, undef, undef, undef, undef, undef, undef, undef, undef, undef, undef, undef, undef, undef, undef, undef]).toArray, []⟩) (by kernel_rfl) ?_
                    refine lwp_list ?_
                    refine ls_move (x := x11) (by kernel_rfl) (by kernel_rfl) ?_
                    refine ls_p (d := some 46) (by kernel_rfl) (by kernel_rfl) (p_add (by kernel_rfl) (by kernel_rfl) H) (fun x46 H => ?_)
                    refine ls_assign (x := x46) (by kernel_rfl) (by kernel_rfl) ?_
                    refine ls_nil ?_
                    exact ⟨⟨(fun i => ([x11, x40, x43, x44, x11, x46, (D_6 0), (D_6 1), (D_6 2), (D_6 3), (D_6 4), (D_6 5), (D_6 6), (D_6 7), (D_6 8)]).getD i undef), x9_1, x46, h_7, by kernel_rfl, HA_11, H.1⟩, loop_lt HA_11.heap HA_10.heap (by kernel_rfl) (by kernel_rfl) H.2⟩
                · refine wp_exit ?_
                  refine then_exit ?_
                  refine then_exit ?_
                  refine block_exit ?_
                  refine then_normal ?_
                  refine fr_eq (b := ⟨([x0, x1, x2, x3, x4, x5, undef, undef, (.bool false), x9, x40, x11, undef, x13, x14, x15, x15, (D 0), (D 1), (D 2), x20, x20, (D_1 0), (D_1 1), x24, x24, (D_2 0), (D_2 1), x28, x28, (D_3 0), (D_3 1), x32, x32, (D_4 0), (D_4 1), x36, undef, x38, x39, x40, x11, x40, x43, x44, (D_5 4), (D_5 5), (D_5 6), (D_5 7), (D_5 8)] ++ [(D_5 9), (D_5 10), (D_5 11), (D_5 12), (D_5 13), (D_5 14), undef, undef, undef, undef, undef, undef, undef, undef, undef, undef, undef, undef, undef, undef, undef, undef, undef, undef, undef, undef, undef, undef, undef, undef, undef, undef, undef, undef, undef, undef, undef, undef, undef, undef]).toArray, []⟩) (by kernel_rfl) ?_
                  refine wp_seq ?_
                  refine wp_seq ?_
                  refine lwp_list ?_
                  refine ls_y (d := some 56) (by kernel_rfl) (by kernel_rfl) HA_10 (y_ldn Try.isAgg35 Try.sizeOf35 (by kernel_rfl) H) (fun x56 H => ?_)
                  refine ls_y (d := some 57) (by kernel_rfl) (by kernel_rfl) HA_10 (y_ldn Try.isAgg35 Try.sizeOf35 (by kernel_rfl) H) (fun x57 H => ?_)
                  refine ls_d (d := some 58) (by kernel_rfl) (by kernel_rfl) HA_10 (d_call (by kernel_rfl) (by kernel_rfl) H) (fun x58 h_9 w_13 H HA_13 => ?_)
                  refine ls_move (x := x2) (by kernel_rfl) (by kernel_rfl) ?_
                  refine ls_move (x := x3) (by kernel_rfl) (by kernel_rfl) ?_
                  refine ls_d (d := some 61) (by kernel_rfl) (by kernel_rfl) HA_13 (d_call (by kernel_rfl) (by kernel_rfl) H) (fun x61 h_10 w_14 H HA_14 => ?_)
                  refine ls_nil ?_
                  refine then_normal ?_
                  refine fr_eq (b := ⟨([x0, x1, x2, x3, x4, x5, undef, undef, (.bool false), x9, x40, x11, undef, x13, x14, x15, x15, (D 0), (D 1), (D 2), x20, x20, (D_1 0), (D_1 1), x24, x24, (D_2 0), (D_2 1), x28, x28, (D_3 0), (D_3 1), x32, x32, (D_4 0), (D_4 1), x36, undef, x38, x39, x40, x11, x40, x43, x44, (D_5 4), (D_5 5), (D_5 6), (D_5 7), (D_5 8)] ++ [(D_5 9), (D_5 10), (D_5 11), (D_5 12), (D_5 13), (D_5 14), x56, x57, x58, x2, x3, x61, undef, undef, undef, undef, undef, undef, undef, undef, undef, undef, undef, undef, undef, undef, undef, undef, undef, undef, undef, undef, undef, undef, undef, undef, undef, undef, undef, undef]).toArray, []⟩) (by kernel_rfl) ?_
                  refine wp_join (fun a w => ∃ (D_7 : Nat → Value) (x9_2 : Value) (h_11 : Heap), a = ⟨([x0, x1, x2, x3, x4, x5, undef, undef, (.bool false), x9_2, x40, x11, undef, x13, x14, x15, x15, (D 0), (D 1), (D 2), x20, x20, (D_1 0), (D_1 1), x24, x24, (D_2 0), (D_2 1), x28, x28, (D_3 0), (D_3 1), x32, x32, (D_4 0), (D_4 1), x36, undef, x38, x39, x40, x11, x40, x43, x44, (D_5 4), (D_5 5), (D_5 6), (D_5 7), (D_5 8)] ++ [(D_5 9), (D_5 10), (D_5 11), (D_5 12), (D_5 13), (D_5 14), x56, x57, x58, x2, x3, x61, (D_7 0), (D_7 1), undef, undef, undef, undef, undef, undef, undef, undef, undef, undef, undef, undef, undef, undef, undef, undef, undef, undef, undef, undef, undef, undef, undef, undef, undef, undef]).toArray, []⟩ ∧ At w0 w h_11 ∧ betonylaw04_RectCells_j3 R x2 x3 x4 x9_2 h_11) ?_ ?_
                  · refine wp_if rfl H (fun H => ?_) (fun H => ?_)
                    · refine lwp_list ?_
                      refine ls_move (x := x9) (by kernel_rfl) (by kernel_rfl) ?_
                      refine ls_p (d := some 63) (by kernel_rfl) (by kernel_rfl) (p_add (by kernel_rfl) (by kernel_rfl) H) (fun x63 H => ?_)
                      refine ls_assign (x := x63) (by kernel_rfl) (by kernel_rfl) ?_
                      refine ls_nil ?_
                      exact ⟨(fun i => ([x9, x63]).getD i undef), x63, h_10, by kernel_rfl, HA_14, H⟩
                    · refine wp_skip ?_
                      exact ⟨(fun i => ([undef, undef]).getD i undef), x9, h_10, by kernel_rfl, HA_14, H⟩
                  · rintro _ w_15 ⟨D_7, x9_2, h_11, rfl, HA_15, H⟩
                    unfold betonylaw04_RectCells_j3 at H
                    refine then_normal ?_
                    refine fr_eq (b := ⟨([x0, x1, x2, x3, x4, x5, undef, undef, (.bool false), x9_2, x40, x11, undef, x13, x14, x15, x15, (D 0), (D 1), (D 2), x20, x20, (D_1 0), (D_1 1), x24, x24, (D_2 0), (D_2 1), x28, x28, (D_3 0), (D_3 1), x32, x32, (D_4 0), (D_4 1), x36, undef, x38, x39, x40, x11, x40, x43, x44, (D_5 4), (D_5 5), (D_5 6), (D_5 7), (D_5 8)] ++ [(D_5 9), (D_5 10), (D_5 11), (D_5 12), (D_5 13), (D_5 14), x56, x57, x58, x2, x3, x61, (D_7 0), (D_7 1), undef, undef, undef, undef, undef, undef, undef, undef, undef, undef, undef, undef, undef, undef, undef, undef, undef, undef, undef, undef, undef, undef, undef, undef, undef, undef]).toArray, []⟩) (by kernel_rfl) ?_
                    refine wp_seq ?_
                    refine lwp_list ?_
                    refine ls_y (d := some 64) (by kernel_rfl) (by kernel_rfl) HA_15 (y_ldn Try.isAgg35 Try.sizeOf35 (by kernel_rfl) H) (fun x64 H => ?_)
                    refine ls_move (x := x2) (by kernel_rfl) (by kernel_rfl) ?_
                    refine ls_move (x := x3) (by kernel_rfl) (by kernel_rfl) ?_
                    refine ls_d (d := some 67) (by kernel_rfl) (by kernel_rfl) HA_15 (d_call (by kernel_rfl) (by kernel_rfl) H) (fun x67 h_12 w_16 H HA_16 => ?_)
                    refine ls_assign (x := x67) (by kernel_rfl) (by kernel_rfl) ?_
                    refine ls_nil ?_
                    refine then_normal ?_
                    refine fr_eq (b := ⟨([x0, x1, x2, x3, x4, x5, undef, undef, (.bool false), x9_2, x40, x11, x67, x13, x14, x15, x15, (D 0), (D 1), (D 2), x20, x20, (D_1 0), (D_1 1), x24, x24, (D_2 0), (D_2 1), x28, x28, (D_3 0), (D_3 1), x32, x32, (D_4 0), (D_4 1), x36, undef, x38, x39, x40, x11, x40, x43, x44, (D_5 4), (D_5 5), (D_5 6), (D_5 7), (D_5 8)] ++ [(D_5 9), (D_5 10), (D_5 11), (D_5 12), (D_5 13), (D_5 14), x56, x57, x58, x2, x3, x61, (D_7 0), (D_7 1), x64, x2, x3, x67, undef, undef, undef, undef, undef, undef, undef, undef, undef, undef, undef, undef, undef, undef, undef, undef, undef, undef, undef, undef, undef, undef]).toArray, []⟩) (by kernel_rfl) ?_
                    refine wp_seq ?_
                    refine lwp_list ?_
                    refine ls_y (d := some 68) (by kernel_rfl) (by kernel_rfl) HA_16 (y_ldn Try.isAgg35 Try.sizeOf35 (by kernel_rfl) H) (fun x68 H => ?_)
                    refine ls_move (x := x2) (by kernel_rfl) (by kernel_rfl) ?_
                    refine ls_move (x := x3) (by kernel_rfl) (by kernel_rfl) ?_
                    refine ls_d (d := some 71) (by kernel_rfl) (by kernel_rfl) HA_16 (d_call (by kernel_rfl) (by kernel_rfl) H) (fun x71 h_13 w_17 H HA_17 => ?_)
                    refine ls_move (x := x67) (by kernel_rfl) (by kernel_rfl) ?_
                    refine ls_p (d := some 73) (by kernel_rfl) (by kernel_rfl) (p_eqlB Try.underlying4 (by kernel_rfl) (by kernel_rfl) H) (fun x73 H => ?_)
                    refine ls_fr (b := ⟨([x0, x1, x2, x3, x4, x5, undef, undef, (.bool false), x9_2, x40, x11, x67, x13, x14, x15, x15, (D 0), (D 1), (D 2), x20, x20, (D_1 0), (D_1 1), x24, x24, (D_2 0), (D_2 1), x28, x28, (D_3 0), (D_3 1), x32, x32, (D_4 0), (D_4 1), x36, undef, x38, x39, x40, x11, x40, x43, x44, (D_5 4), (D_5 5), (D_5 6), (D_5 7), (D_5 8)] ++ [(D_5 9), (D_5 10), (D_5 11), (D_5 12), (D_5 13), (D_5 14), x56, x57, x58, x2, x3, x61, (D_7 0), (D_7 1), x64, x2, x3, x67, x68, x2, x3, x71, x67, x73, undef, undef, undef, undef, undef, undef, undef, undef, undef, undef, undef, undef, undef, undef, undef, undef]).toArray, []⟩) (by kernel_rfl) ?_
                    refine ls_move (x := x73) (by kernel_rfl) (by kernel_rfl) ?_
                    refine ls_and [(), (), (), (), ()] (fun K a w => ∃ (D_8 : Nat → Value) (x79 : Value), a = ⟨([x0, x1, x2, x3, x4, x5, undef, undef, (.bool false), x9_2, x40, x11, x67, x13, x14, x15, x15, (D 0), (D 1), (D 2), x20, x20, (D_1 0), (D_1 1), x24, x24, (D_2 0), (D_2 1), x28, x28, (D_3 0), (D_3 1), x32, x32, (D_4 0), (D_4 1), x36, undef, x38, x39, x40, x11, x40, x43, x44, (D_5 4), (D_5 5), (D_5 6), (D_5 7), (D_5 8)] ++ [(D_5 9), (D_5 10), (D_5 11), (D_5 12), (D_5 13), (D_5 14), x56, x57, x58, x2, x3, x61, (D_7 0), (D_7 1), x64, x2, x3, x67, x68, x2, x3, x71, x67, x73, x73, (D_8 0), (D_8 1), (D_8 2), (D_8 3), x79, undef, undef, undef, undef, undef, undef, undef, undef, undef, undef]).toArray, []⟩ ∧ At w0 w h_13 ∧ K x79) H (fun hb_2 H => ?_) (fun hb_2 H => ?_) ?_
                    · refine ls_move (x := x9_2) (by rw [hb_2]; kernel_rfl) (by kernel_rfl) ?_
                      refine ls_p (d := some 76) (by kernel_rfl) (by rw [hb_2]; kernel_rfl) (p_sEq (by kernel_rfl) (by kernel_rfl) H) (fun x76 H => ?_)
                      refine ls_move (x := x67) (by rw [hb_2]; kernel_rfl) (by kernel_rfl) ?_
                      refine ls_p (d := some 78) (by kernel_rfl) (by rw [hb_2]; kernel_rfl) (p_eqlB Try.underlying4 (by kernel_rfl) (by kernel_rfl) H) (fun x78 H => ?_)
                      refine ls_pick_t (x := x78) (by kernel_rfl) (by rw [hb_2]; kernel_rfl) (by kernel_rfl) ?_
                      refine ls_nil ?_
                      refine then_normal ?_
                      exact ⟨(fun i => ([x9_2, x76, x67, x78]).getD i undef), x78, by kernel_rfl, HA_17, H⟩
                    · refine ls_skip (d := some 75) (by kernel_rfl) (by rw [hb_2]; kernel_rfl) ?_
                      refine ls_skip (d := some 76) (by kernel_rfl) (by rw [hb_2]; kernel_rfl) ?_
                      refine ls_skip (d := some 77) (by kernel_rfl) (by rw [hb_2]; kernel_rfl) ?_
                      refine ls_skip (d := some 78) (by kernel_rfl) (by rw [hb_2]; kernel_rfl) ?_
                      refine ls_pick_f (y := (.bool false)) (by kernel_rfl) (by rw [hb_2]; kernel_rfl) (by kernel_rfl) ?_
                      refine ls_nil ?_
                      refine then_normal ?_
                      exact ⟨(fun i => ([undef, undef, undef, undef]).getD i undef), (.bool false), by kernel_rfl, HA_17, H⟩
                    · rintro _ w_18 ⟨D_8, x79, rfl, HA_18, H⟩
                      refine ls_move (x := x79) (by kernel_rfl) (by kernel_rfl) ?_
                      refine ls_and [(), (), (), (), (), ()] (fun K a w => ∃ (D_9 : Nat → Value) (x86 : Value), a = ⟨([x0, x1, x2, x3, x4, x5, undef, undef, (.bool false), x9_2, x40, x11, x67, x13, x14, x15, x15, (D 0), (D 1), (D 2), x20, x20, (D_1 0), (D_1 1), x24, x24, (D_2 0), (D_2 1), x28, x28, (D_3 0), (D_3 1), x32, x32, (D_4 0), (D_4 1), x36, undef, x38, x39, x40, x11, x40, x43, x44, (D_5 4), (D_5 5), (D_5 6), (D_5 7), (D_5 8)] ++ [(D_5 9), (D_5 10), (D_5 11), (D_5 12), (D_5 13), (D_5 14), x56, x57, x58, x2, x3, x61, (D_7 0), (D_7 1), x64, x2, x3, x67, x68, x2, x3, x71, x67, x73, x73, (D_8 0), (D_8 1), (D_8 2), (D_8 3), x79, x79, (D_9 0), (D_9 1), (D_9 2), (D_9 3), (D_9 4), x86, undef, undef, undef]).toArray, []⟩ ∧ At w0 w h_13 ∧ K x86) H (fun hb_1 H => ?_) (fun hb_1 H => ?_) ?_
                      · refine ls_move (x := x9_2) (by rw [hb_1]; kernel_rfl) (by kernel_rfl) ?_
                        refine ls_p (d := some 82) (by kernel_rfl) (by rw [hb_1]; kernel_rfl) (p_sEq (by kernel_rfl) (by kernel_rfl) H) (fun x82 H => ?_)
                        refine ls_move (x := x67) (by rw [hb_1]; kernel_rfl) (by kernel_rfl) ?_
                        refine ls_p (d := some 84) (by kernel_rfl) (by rw [hb_1]; kernel_rfl) (p_not (by kernel_rfl) H) (fun x84 H => ?_)
                        refine ls_p (d := some 85) (by kernel_rfl) (by rw [hb_1]; kernel_rfl) (p_eqlB Try.underlying4 (by kernel_rfl) (by kernel_rfl) H) (fun x85 H => ?_)
                        refine ls_fr (b := ⟨([x0, x1, x2, x3, x4, x5, undef, undef, (.bool false), x9_2, x40, x11, x67, x13, x14, x15, x15, (D 0), (D 1), (D 2), x20, x20, (D_1 0), (D_1 1), x24, x24, (D_2 0), (D_2 1), x28, x28, (D_3 0), (D_3 1), x32, x32, (D_4 0), (D_4 1), x36, undef, x38, x39, x40, x11, x40, x43, x44, (D_5 4), (D_5 5), (D_5 6), (D_5 7), (D_5 8)] ++ [(D_5 9), (D_5 10), (D_5 11), (D_5 12), (D_5 13), (D_5 14), x56, x57, x58, x2, x3, x61, (D_7 0), (D_7 1), x64, x2, x3, x67, x68, x2, x3, x71, x67, x73, x73, (D_8 0), (D_8 1), (D_8 2), (D_8 3), x79, x79, x9_2, x82, x67, x84, x85, undef, undef, undef, undef]).toArray, []⟩) (by kernel_rfl) ?_
                        refine ls_pick_t (x := x85) (by kernel_rfl) (by rw [hb_1]; kernel_rfl) (by kernel_rfl) ?_
                        refine ls_nil ?_
                        refine then_normal ?_
                        exact ⟨(fun i => ([x9_2, x82, x67, x84, x85]).getD i undef), x85, by kernel_rfl, HA_18, H⟩
                      · refine ls_skip (d := some 81) (by kernel_rfl) (by rw [hb_1]; kernel_rfl) ?_
                        refine ls_skip (d := some 82) (by kernel_rfl) (by rw [hb_1]; kernel_rfl) ?_
                        refine ls_skip (d := some 83) (by kernel_rfl) (by rw [hb_1]; kernel_rfl) ?_
                        refine ls_skip (d := some 84) (by kernel_rfl) (by rw [hb_1]; kernel_rfl) ?_
                        refine ls_skip (d := some 85) (by kernel_rfl) (by rw [hb_1]; kernel_rfl) ?_
                        refine ls_fr (b := ⟨([x0, x1, x2, x3, x4, x5, undef, undef, (.bool false), x9_2, x40, x11, x67, x13, x14, x15, x15, (D 0), (D 1), (D 2), x20, x20, (D_1 0), (D_1 1), x24, x24, (D_2 0), (D_2 1), x28, x28, (D_3 0), (D_3 1), x32, x32, (D_4 0), (D_4 1), x36, undef, x38, x39, x40, x11, x40, x43, x44, (D_5 4), (D_5 5), (D_5 6), (D_5 7), (D_5 8)] ++ [(D_5 9), (D_5 10), (D_5 11), (D_5 12), (D_5 13), (D_5 14), x56, x57, x58, x2, x3, x61, (D_7 0), (D_7 1), x64, x2, x3, x67, x68, x2, x3, x71, x67, x73, x73, (D_8 0), (D_8 1), (D_8 2), (D_8 3), x79, x79, undef, undef, undef, undef, undef, undef, undef, undef, undef]).toArray, []⟩) (by kernel_rfl) ?_
                        refine ls_pick_f (y := (.bool false)) (by kernel_rfl) (by rw [hb_1]; kernel_rfl) (by kernel_rfl) ?_
                        refine ls_nil ?_
                        refine then_normal ?_
                        exact ⟨(fun i => ([undef, undef, undef, undef, undef]).getD i undef), (.bool false), by kernel_rfl, HA_18, H⟩
                      · rintro _ w_19 ⟨D_9, x86, rfl, HA_19, H⟩
                        refine ls_move (x := x86) (by kernel_rfl) (by kernel_rfl) ?_
                        refine ls_andh [(), ()] (fun K a w => ∃ (D_10 : Nat → Value) (x89 : Value) (h_14 : Heap), a = ⟨([x0, x1, x2, x3, x4, x5, undef, undef, (.bool false), x9_2, x40, x11, x67, x13, x14, x15, x15, (D 0), (D 1), (D 2), x20, x20, (D_1 0), (D_1 1), x24, x24, (D_2 0), (D_2 1), x28, x28, (D_3 0), (D_3 1), x32, x32, (D_4 0), (D_4 1), x36, undef, x38, x39, x40, x11, x40, x43, x44, (D_5 4), (D_5 5), (D_5 6), (D_5 7), (D_5 8)] ++ [(D_5 9), (D_5 10), (D_5 11), (D_5 12), (D_5 13), (D_5 14), x56, x57, x58, x2, x3, x61, (D_7 0), (D_7 1), x64, x2, x3, x67, x68, x2, x3, x71, x67, x73, x73, (D_8 0), (D_8 1), (D_8 2), (D_8 3), x79, x79, (D_9 0), (D_9 1), (D_9 2), (D_9 3), (D_9 4), x86, x86, (D_10 0), x89]).toArray, []⟩ ∧ At w0 w h_14 ∧ K x89 h_14) H (fun hb H => ?_) (fun hb H => ?_) ?_
                        · refine ls_d (d := some 88) (by kernel_rfl) (by rw [hb]; kernel_rfl) HA_19 (d_call (by kernel_rfl) (by kernel_rfl) H) (fun x88 h_15 w_21 H HA_21 => ?_)
                          refine ls_pick_t (x := x88) (by kernel_rfl) (by rw [hb]; kernel_rfl) (by kernel_rfl) ?_
                          refine ls_nil ?_
                          refine then_normal ?_
                          exact ⟨(fun i => ([x88]).getD i undef), x88, h_15, by kernel_rfl, HA_21, H⟩
                        · refine ls_skip (d := some 88) (by kernel_rfl) (by rw [hb]; kernel_rfl) ?_
                          refine ls_pick_f (y := (.bool false)) (by kernel_rfl) (by rw [hb]; kernel_rfl) (by kernel_rfl) ?_
                          refine ls_nil ?_
                          refine then_normal ?_
                          exact ⟨(fun i => ([undef]).getD i undef), (.bool false), h_13, by kernel_rfl, HA_19, H⟩
                        · rintro _ w_20 ⟨D_10, x89, h_14, rfl, HA_20, H⟩
                          refine ls_assign (x := x89) (by kernel_rfl) (by kernel_rfl) ?_
                          refine ls_nil ?_
                          refine then_normal ?_
                          refine fr_eq (b := ⟨([x0, x1, x2, x3, x4, x5, undef, undef, x89, x9_2, x40, x11, x67, x13, x14, x15, x15, (D 0), (D 1), (D 2), x20, x20, (D_1 0), (D_1 1), x24, x24, (D_2 0), (D_2 1), x28, x28, (D_3 0), (D_3 1), x32, x32, (D_4 0), (D_4 1), x36, undef, x38, x39, x40, x11, x40, x43, x44, (D_5 4), (D_5 5), (D_5 6), (D_5 7), (D_5 8)] ++ [(D_5 9), (D_5 10), (D_5 11), (D_5 12), (D_5 13), (D_5 14), x56, x57, x58, x2, x3, x61, (D_7 0), (D_7 1), x64, x2, x3, x67, x68, x2, x3, x71, x67, x73, x73, (D_8 0), (D_8 1), (D_8 2), (D_8 3), x79, x79, (D_9 0), (D_9 1), (D_9 2), (D_9 3), (D_9 4), x86, x86, (D_10 0), x89]).toArray, []⟩) (by kernel_rfl) ?_
                          refine wp_ret ?_
                          exact end1 (Try.results6) (by kernel_rfl) (by kernel_rfl) HA_20 H _ (.inr rfl)

end Go.Proofs.Ytecoejjpdogklaa
