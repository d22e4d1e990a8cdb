/- The shallow reading of one function, and that the function does it. Written by a program. -/
import Derived.Test.YtkagmlpnidijaaaFnC
set_option linter.unusedVariables false
namespace Go.Proofs.Ytkagmlpnidijaaa
open Go Go.HW

def pen_colour_S (x0 : Value) (h : Heap) (R : Value → Heap → Prop) : Prop :=
  sLen x0 fun x6 =>
  sGe x6 (.int .i64 2) fun x7 =>
  sAnd x7 (fun k_5 =>
  sIxS x0 (.int .i64 0) 1 fun x10 =>
  sLd h x10 fun x11 =>
  sEq x11 (.int .i64 5) fun x12 =>
  k_5 x12) fun x13 =>
  sAndH x13 h (fun k_4 =>
  sIxS x0 (.int .i64 1) 1 fun x16 =>
  sLd h x16 fun x17 =>
  pen_isByte_c x17 h fun x18 h_7 => 
  k_4 x18 h_7) fun x19 h =>
  sIf x19 (sIxS x0 (.int .i64 1) 1 fun x21 =>
  sLd h x21 fun x22 =>
  sAdd .i64 (.int .i64 1) x22 fun x23 =>
  R (.tuple #[x23, (.int .i64 2)]) h) (sLen x0 fun x26 =>
  sGe x26 (.int .i64 4) fun x27 =>
  sAnd x27 (fun k_3 =>
  sIxS x0 (.int .i64 0) 1 fun x30 =>
  sLd h x30 fun x31 =>
  sEq x31 (.int .i64 2) fun x32 =>
  k_3 x32) fun x33 =>
  sAndH x33 h (fun k_2 =>
  sIxS x0 (.int .i64 1) 1 fun x36 =>
  sLd h x36 fun x37 =>
  pen_isByte_c x37 h fun x38 h_6 => 
  k_2 x38 h_6) fun x39 h_1 =>
  sAndH x39 h_1 (fun k_1 =>
  sIxS x0 (.int .i64 2) 1 fun x42 =>
  sLd h_1 x42 fun x43 =>
  pen_isByte_c x43 h_1 fun x44 h_5 => 
  k_1 x44 h_5) fun x45 h_2 =>
  sAndH x45 h_2 (fun k =>
  sIxS x0 (.int .i64 3) 1 fun x48 =>
  sLd h_2 x48 fun x49 =>
  pen_isByte_c x49 h_2 fun x50 h_4 => 
  k x50 h_4) fun x51 h_3 =>
  sIf x51 (sIxS x0 (.int .i64 1) 1 fun x53 =>
  sLd h_3 x53 fun x54 =>
  sShl .i64 x54 (.int .u64 16) fun x55 =>
  sAdd .i64 (.int .i64 16777216) x55 fun x56 =>
  sIxS x0 (.int .i64 2) 1 fun x58 =>
  sLd h_3 x58 fun x59 =>
  sShl .i64 x59 (.int .u64 8) fun x60 =>
  sAdd .i64 x56 x60 fun x61 =>
  sIxS x0 (.int .i64 3) 1 fun x63 =>
  sLd h_3 x63 fun x64 =>
  sAdd .i64 x61 x64 fun x65 =>
  R (.tuple #[x65, (.int .i64 4)]) h_3) (R (.tuple #[(.int .i64 0), (.int .i64 0)]) h_3))
set_option maxRecDepth 100000 in
theorem pen_colour_runs {x0 : Value} {h : Heap} {R : Value → Heap → Prop} (H : pen_colour_S x0 h R) : pen_colour_c x0 h R := by
  unfold pen_colour_S at H
  refine runs_of (b := ⟨([x0, undef, undef, undef, undef, undef, undef, undef, undef, undef, undef, undef, undef, undef, undef, undef, undef, undef, undef, undef, undef, undef, undef, undef, undef, undef, undef, undef, undef, undef, undef, undef, undef, undef, undef, undef, undef, undef, undef, undef, undef, undef, undef, undef, undef, undef, undef, undef, undef, undef] ++ [undef, undef, undef, undef, undef, undef, undef, undef, undef, undef, undef, undef, undef, undef, undef, undef]).toArray, []⟩) Try.call51 Try.func51 rfl (by kernel_rfl) (fun w0 HA => ?_)
  refine wp_seq ?_
  refine lwp_list ?_
  refine ls_assign (x := (.int .i64 0)) (by kernel_rfl) (by kernel_rfl) ?_
  refine ls_assign (x := (.int .i64 0)) (by kernel_rfl) (by kernel_rfl) ?_
  refine ls_nil ?_
  refine then_normal ?_
  refine fr_eq (b := ⟨([x0, undef, (.int .i64 0), (.int .i64 0), undef, undef, undef, undef, undef, undef, undef, undef, undef, undef, undef, undef, undef, undef, undef, undef, undef, undef, undef, undef, undef, undef, undef, undef, undef, undef, undef, undef, undef, undef, undef, undef, undef, undef, undef, undef, undef, undef, undef, undef, undef, undef, undef, undef, undef, undef] ++ [undef, undef, undef, undef, undef, undef, undef, undef, undef, undef, undef, undef, undef, undef, undef, undef]).toArray, []⟩) (by kernel_rfl) ?_
  refine wp_seq ?_
  refine wp_block ?_
  refine wp_seq ?_
  refine lwp_list ?_
  refine ls_move (x := x0) (by kernel_rfl) (by kernel_rfl) ?_
  refine ls_p (d := some 6) (by kernel_rfl) (by kernel_rfl) (p_len Try.underlying24 (by kernel_rfl) H) (fun x6 H => ?_)
  refine ls_p (d := some 7) (by kernel_rfl) (by kernel_rfl) (p_sGe (by kernel_rfl) (by kernel_rfl) H) (fun x7 H => ?_)
  refine ls_move (x := x7) (by kernel_rfl) (by kernel_rfl) ?_
  refine ls_and [(), (), (), (), ()] (fun K a w => ∃ (D : Nat → Value) (x13 : Value), a = ⟨([x0, undef, (.int .i64 0), (.int .i64 0), undef, x0, x6, x7, x7, (D 0), (D 1), (D 2), (D 3), x13, undef, undef, undef, undef, undef, undef, undef, undef, undef, undef, undef, undef, undef, undef, undef, undef, undef, undef, undef, undef, undef, undef, undef, undef, undef, undef, undef, undef, undef, undef, undef, undef, undef, undef, undef, undef] ++ [undef, undef, undef, undef, undef, undef, undef, undef, undef, undef, undef, undef, undef, undef, undef, undef]).toArray, []⟩ ∧ At w0 w h ∧ K x13) H (fun hb_5 H => ?_) (fun hb_5 H => ?_) ?_
  · refine ls_move (x := x0) (by rw [hb_5]; kernel_rfl) (by kernel_rfl) ?_
    refine ls_p (d := some 10) (by kernel_rfl) (by rw [hb_5]; kernel_rfl) (p_ixs Try.underlying24 Try.sizeOf3 (by kernel_rfl) (by kernel_rfl) H) (fun x10 H => ?_)
    refine ls_fr (b := ⟨([x0, undef, (.int .i64 0), (.int .i64 0), undef, x0, x6, x7, x7, x0, x10, undef, undef, undef, undef, undef, undef, undef, undef, undef, undef, undef, undef, undef, undef, undef, undef, undef, undef, undef, undef, undef, undef, undef, undef, undef, undef, undef, undef, undef, undef, undef, undef, undef, undef, undef, undef, undef, undef, undef] ++ [undef, undef, undef, undef, undef, undef, undef, undef, undef, undef, undef, undef, undef, undef, undef, undef]).toArray, []⟩) (by kernel_rfl) ?_
    refine ls_y (d := some 11) (by kernel_rfl) (by rw [hb_5]; kernel_rfl) HA (y_ld Try.isAgg3 (by kernel_rfl) H) (fun x11 H => ?_)
    refine ls_p (d := some 12) (by kernel_rfl) (by rw [hb_5]; kernel_rfl) (p_sEq (by kernel_rfl) (by kernel_rfl) H) (fun x12 H => ?_)
    refine ls_pick_t (x := x12) (by kernel_rfl) (by rw [hb_5]; kernel_rfl) (by kernel_rfl) ?_
    refine ls_nil ?_
    refine then_normal ?_
    exact ⟨(fun i => ([x0, x10, x11, x12]).getD i undef), x12, by kernel_rfl, HA, H⟩
  · refine ls_skip (d := some 9) (by kernel_rfl) (by rw [hb_5]; kernel_rfl) ?_
    refine ls_skip (d := some 10) (by kernel_rfl) (by rw [hb_5]; kernel_rfl) ?_
    refine ls_fr (b := ⟨([x0, undef, (.int .i64 0), (.int .i64 0), undef, x0, x6, x7, x7, undef, undef, undef, undef, undef, undef, undef, undef, undef, undef, undef, undef, undef, undef, undef, undef, undef, undef, undef, undef, undef, undef, undef, undef, undef, undef, undef, undef, undef, undef, undef, undef, undef, undef, undef, undef, undef, undef, undef, undef, undef] ++ [undef, undef, undef, undef, undef, undef, undef, undef, undef, undef, undef, undef, undef, undef, undef, undef]).toArray, []⟩) (by kernel_rfl) ?_
    refine ls_skip (d := some 11) (by kernel_rfl) (by rw [hb_5]; kernel_rfl) ?_
    refine ls_skip (d := some 12) (by kernel_rfl) (by rw [hb_5]; kernel_rfl) ?_
    refine ls_pick_f (y := (.bool false)) (by kernel_rfl) (by rw [hb_5]; kernel_rfl) (by kernel_rfl) ?_
    refine ls_nil ?_
    refine then_normal ?_
    exact ⟨(fun i => ([undef, undef, undef, undef]).getD i undef), (.bool false), by kernel_rfl, HA, H⟩
  · rintro _ w ⟨D, x13, rfl, HA, H⟩
    refine ls_move (x := x13) (by kernel_rfl) (by kernel_rfl) ?_
    refine ls_andh [(), (), (), (), ()] (fun K a w => ∃ (D_1 : Nat → Value) (x19 : Value) (h : Heap), a = ⟨([x0, undef, (.int .i64 0), (.int .i64 0), undef, x0, x6, x7, x7, (D 0), (D 1), (D 2), (D 3), x13, x13, (D_1 0), (D_1 1), (D_1 2), (D_1 3), x19, undef, undef, undef, undef, undef, undef, undef, undef, undef, undef, undef, undef, undef, undef, undef, undef, undef, undef, undef, undef, undef, undef, undef, undef, undef, undef, undef, undef, undef, undef] ++ [undef, undef, undef, undef, undef, undef, undef, undef, undef, undef, undef, undef, undef, undef, undef, undef]).toArray, []⟩ ∧ At w0 w h ∧ K x19 h) H (fun hb_4 H => ?_) (fun hb_4 H => ?_) ?_
    · refine ls_move (x := x0) (by rw [hb_4]; kernel_rfl) (by kernel_rfl) ?_
      refine ls_p (d := some 16) (by kernel_rfl) (by rw [hb_4]; kernel_rfl) (p_ixs Try.underlying24 Try.sizeOf3 (by kernel_rfl) (by kernel_rfl) H) (fun x16 H => ?_)
      refine ls_y (d := some 17) (by kernel_rfl) (by rw [hb_4]; kernel_rfl) HA (y_ld Try.isAgg3 (by kernel_rfl) H) (fun x17 H => ?_)
      refine ls_d (d := some 18) (by kernel_rfl) (by rw [hb_4]; kernel_rfl) HA (d_call (by kernel_rfl) (by kernel_rfl) H) (fun x18 h_7 w_10 H HA_10 => ?_)
      refine ls_pick_t (x := x18) (by kernel_rfl) (by rw [hb_4]; kernel_rfl) (by kernel_rfl) ?_
      refine ls_nil ?_
      refine then_normal ?_
      exact ⟨(fun i => ([x0, x16, x17, x18]).getD i undef), x18, h_7, by kernel_rfl, HA_10, H⟩
    · refine ls_skip (d := some 15) (by kernel_rfl) (by rw [hb_4]; kernel_rfl) ?_
      refine ls_skip (d := some 16) (by kernel_rfl) (by rw [hb_4]; kernel_rfl) ?_
      refine ls_skip (d := some 17) (by kernel_rfl) (by rw [hb_4]; kernel_rfl) ?_
      refine ls_skip (d := some 18) (by kernel_rfl) (by rw [hb_4]; kernel_rfl) ?_
      refine ls_pick_f (y := (.bool false)) (by kernel_rfl) (by rw [hb_4]; kernel_rfl) (by kernel_rfl) ?_
      refine ls_nil ?_
      refine then_normal ?_
      exact ⟨(fun i => ([undef, undef, undef, undef]).getD i undef), (.bool false), h, by kernel_rfl, HA, H⟩
    · rintro _ w_1 ⟨D_1, x19, h, rfl, HA_1, H⟩
      refine ls_assign (x := x19) (by kernel_rfl) (by kernel_rfl) ?_
      refine ls_nil ?_
      refine then_normal ?_
      refine fr_eq (b := ⟨([x0, undef, (.int .i64 0), (.int .i64 0), x19, x0, x6, x7, x7, (D 0), (D 1), (D 2), (D 3), x13, x13, (D_1 0), (D_1 1), (D_1 2), (D_1 3), x19, undef, undef, undef, undef, undef, undef, undef, undef, undef, undef, undef, undef, undef, undef, undef, undef, undef, undef, undef, undef, undef, undef, undef, undef, undef, undef, undef, undef, undef, undef] ++ [undef, undef, undef, undef, undef, undef, undef, undef, undef, undef, undef, undef, undef, undef, undef, undef]).toArray, []⟩) (by kernel_rfl) ?_
      refine wp_if rfl H (fun H => ?_) (fun H => ?_)
      · refine wp_seq ?_
        refine lwp_list ?_
        refine ls_move (x := x0) (by kernel_rfl) (by kernel_rfl) ?_
        refine ls_p (d := some 21) (by kernel_rfl) (by kernel_rfl) (p_ixs Try.underlying24 Try.sizeOf3 (by kernel_rfl) (by kernel_rfl) H) (fun x21 H => ?_)
        refine ls_y (d := some 22) (by kernel_rfl) (by kernel_rfl) HA_1 (y_ld Try.isAgg3 (by kernel_rfl) H) (fun x22 H => ?_)
        refine ls_p (d := some 23) (by kernel_rfl) (by kernel_rfl) (p_add (by kernel_rfl) (by kernel_rfl) H) (fun x23 H => ?_)
        refine ls_assign (x := x23) (by kernel_rfl) (by kernel_rfl) ?_
        refine ls_assign (x := (.int .i64 2)) (by kernel_rfl) (by kernel_rfl) ?_
        refine ls_nil ?_
        refine then_normal ?_
        refine fr_eq (b := ⟨([x0, undef, x23, (.int .i64 2), x19, x0, x6, x7, x7, (D 0), (D 1), (D 2), (D 3), x13, x13, (D_1 0), (D_1 1), (D_1 2), (D_1 3), x19, x0, x21, x22, x23, undef, undef, undef, undef, undef, undef, undef, undef, undef, undef, undef, undef, undef, undef, undef, undef, undef, undef, undef, undef, undef, undef, undef, undef, undef, undef] ++ [undef, undef, undef, undef, undef, undef, undef, undef, undef, undef, undef, undef, undef, undef, undef, undef]).toArray, []⟩) (by kernel_rfl) ?_
        refine wp_ret ?_
        refine block_ret ?_
        refine then_ret ?_
        exact end2 (Try.results51) (by kernel_rfl) (by kernel_rfl) (by kernel_rfl) HA_1 H _ (.inr rfl)
      · refine wp_seq ?_
        refine lwp_list ?_
        refine ls_move (x := x0) (by kernel_rfl) (by kernel_rfl) ?_
        refine ls_p (d := some 26) (by kernel_rfl) (by kernel_rfl) (p_len Try.underlying24 (by kernel_rfl) H) (fun x26 H => ?_)
        refine ls_p (d := some 27) (by kernel_rfl) (by kernel_rfl) (p_sGe (by kernel_rfl) (by kernel_rfl) H) (fun x27 H => ?_)
        refine ls_move (x := x27) (by kernel_rfl) (by kernel_rfl) ?_
        refine ls_and [(), (), (), (), ()] (fun K a w => ∃ (D_2 : Nat → Value) (x33 : Value), a = ⟨([x0, undef, (.int .i64 0), (.int .i64 0), x19, x0, x6, x7, x7, (D 0), (D 1), (D 2), (D 3), x13, x13, (D_1 0), (D_1 1), (D_1 2), (D_1 3), x19, undef, undef, undef, undef, undef, x0, x26, x27, x27, (D_2 0), (D_2 1), (D_2 2), (D_2 3), x33, undef, undef, undef, undef, undef, undef, undef, undef, undef, undef, undef, undef, undef, undef, undef, undef] ++ [undef, undef, undef, undef, undef, undef, undef, undef, undef, undef, undef, undef, undef, undef, undef, undef]).toArray, []⟩ ∧ At w0 w h ∧ K x33) H (fun hb_3 H => ?_) (fun hb_3 H => ?_) ?_
        · refine ls_move (x := x0) (by rw [hb_3]; kernel_rfl) (by kernel_rfl) ?_
          refine ls_p (d := some 30) (by kernel_rfl) (by rw [hb_3]; kernel_rfl) (p_ixs Try.underlying24 Try.sizeOf3 (by kernel_rfl) (by kernel_rfl) H) (fun x30 H => ?_)
          refine ls_fr (b := ⟨([x0, undef, (.int .i64 0), (.int .i64 0), x19, x0, x6, x7, x7, (D 0), (D 1), (D 2), (D 3), x13, x13, (D_1 0), (D_1 1), (D_1 2), (D_1 3), x19, undef, undef, undef, undef, undef, x0, x26, x27, x27, x0, x30, undef, undef, undef, undef, undef, undef, undef, undef, undef, undef, undef, undef, undef, undef, undef, undef, undef, undef, undef] ++ [undef, undef, undef, undef, undef, undef, undef, undef, undef, undef, undef, undef, undef, undef, undef, undef]).toArray, []⟩) (by kernel_rfl) ?_
          refine ls_y (d := some 31) (by kernel_rfl) (by rw [hb_3]; kernel_rfl) HA_1 (y_ld Try.isAgg3 (by kernel_rfl) H) (fun x31 H => ?_)
          refine ls_p (d := some 32) (by kernel_rfl) (by rw [hb_3]; kernel_rfl) (p_sEq (by kernel_rfl) (by kernel_rfl) H) (fun x32 H => ?_)
          refine ls_pick_t (x := x32) (by kernel_rfl) (by rw [hb_3]; kernel_rfl) (by kernel_rfl) ?_
          refine ls_nil ?_
          refine then_normal ?_
          exact ⟨(fun i => ([x0, x30, x31, x32]).getD i undef), x32, by kernel_rfl, HA_1, H⟩
        · refine ls_skip (d := some 29) (by kernel_rfl) (by rw [hb_3]; kernel_rfl) ?_
          refine ls_skip (d := some 30) (by kernel_rfl) (by rw [hb_3]; kernel_rfl) ?_
          refine ls_fr (b := ⟨([x0, undef, (.int .i64 0), (.int .i64 0), x19, x0, x6, x7, x7, (D 0), (D 1), (D 2), (D 3), x13, x13, (D_1 0), (D_1 1), (D_1 2), (D_1 3), x19, undef, undef, undef, undef, undef, x0, x26, x27, x27, undef, undef, undef, undef, undef, undef, undef, undef, undef, undef, undef, undef, undef, undef, undef, undef, undef, undef, undef, undef, undef] ++ [undef, undef, undef, undef, undef, undef, undef, undef, undef, undef, undef, undef, undef, undef, undef, undef]).toArray, []⟩) (by kernel_rfl) ?_
          refine ls_skip (d := some 31) (by kernel_rfl) (by rw [hb_3]; kernel_rfl) ?_
          refine ls_skip (d := some 32) (by kernel_rfl) (by rw [hb_3]; kernel_rfl) ?_
          refine ls_pick_f (y := (.bool false)) (by kernel_rfl) (by rw [hb_3]; kernel_rfl) (by kernel_rfl) ?_
          refine ls_nil ?_
          refine then_normal ?_
          exact ⟨(fun i => ([undef, undef, undef, undef]).getD i undef), (.bool false), by kernel_rfl, HA_1, H⟩
        · rintro _ w_2 ⟨D_2, x33, rfl, HA_2, H⟩
          refine ls_move (x := x33) (by kernel_rfl) (by kernel_rfl) ?_
          refine ls_andh [(), (), (), (), ()] (fun K a w => ∃ (D_3 : Nat → Value) (x39 : Value) (h_1 : Heap), a = ⟨([x0, undef, (.int .i64 0), (.int .i64 0), x19, x0, x6, x7, x7, (D 0), (D 1), (D 2), (D 3), x13, x13, (D_1 0), (D_1 1), (D_1 2), (D_1 3), x19, undef, undef, undef, undef, undef, x0, x26, x27, x27, (D_2 0), (D_2 1), (D_2 2), (D_2 3), x33, x33, (D_3 0), (D_3 1), (D_3 2), (D_3 3), x39, undef, undef, undef, undef, undef, undef, undef, undef, undef, undef] ++ [undef, undef, undef, undef, undef, undef, undef, undef, undef, undef, undef, undef, undef, undef, undef, undef]).toArray, []⟩ ∧ At w0 w h_1 ∧ K x39 h_1) H (fun hb_2 H => ?_) (fun hb_2 H => ?_) ?_
          · refine ls_move (x := x0) (by rw [hb_2]; kernel_rfl) (by kernel_rfl) ?_
            refine ls_p (d := some 36) (by kernel_rfl) (by rw [hb_2]; kernel_rfl) (p_ixs Try.underlying24 Try.sizeOf3 (by kernel_rfl) (by kernel_rfl) H) (fun x36 H => ?_)
            refine ls_y (d := some 37) (by kernel_rfl) (by rw [hb_2]; kernel_rfl) HA_2 (y_ld Try.isAgg3 (by kernel_rfl) H) (fun x37 H => ?_)
            refine ls_d (d := some 38) (by kernel_rfl) (by rw [hb_2]; kernel_rfl) HA_2 (d_call (by kernel_rfl) (by kernel_rfl) H) (fun x38 h_6 w_9 H HA_9 => ?_)
            refine ls_pick_t (x := x38) (by kernel_rfl) (by rw [hb_2]; kernel_rfl) (by kernel_rfl) ?_
            refine ls_nil ?_
            refine then_normal ?_
            exact ⟨(fun i => ([x0, x36, x37, x38]).getD i undef), x38, h_6, by kernel_rfl, HA_9, H⟩
          · refine ls_skip (d := some 35) (by kernel_rfl) (by rw [hb_2]; kernel_rfl) ?_
            refine ls_skip (d := some 36) (by kernel_rfl) (by rw [hb_2]; kernel_rfl) ?_
            refine ls_skip (d := some 37) (by kernel_rfl) (by rw [hb_2]; kernel_rfl) ?_
            refine ls_skip (d := some 38) (by kernel_rfl) (by rw [hb_2]; kernel_rfl) ?_
            refine ls_pick_f (y := (.bool false)) (by kernel_rfl) (by rw [hb_2]; kernel_rfl) (by kernel_rfl) ?_
            refine ls_nil ?_
            refine then_normal ?_
            exact ⟨(fun i => ([undef, undef, undef, undef]).getD i undef), (.bool false), h, by kernel_rfl, HA_2, H⟩
          · rintro _ w_3 ⟨D_3, x39, h_1, rfl, HA_3, H⟩
            refine ls_move (x := x39) (by kernel_rfl) (by kernel_rfl) ?_
            refine ls_andh [(), (), (), (), ()] (fun K a w => ∃ (D_4 : Nat → Value) (x45 : Value) (h_2 : Heap), a = ⟨([x0, undef, (.int .i64 0), (.int .i64 0), x19, x0, x6, x7, x7, (D 0), (D 1), (D 2), (D 3), x13, x13, (D_1 0), (D_1 1), (D_1 2), (D_1 3), x19, undef, undef, undef, undef, undef, x0, x26, x27, x27, (D_2 0), (D_2 1), (D_2 2), (D_2 3), x33, x33, (D_3 0), (D_3 1), (D_3 2), (D_3 3), x39, x39, (D_4 0), (D_4 1), (D_4 2), (D_4 3), x45, undef, undef, undef, undef] ++ [undef, undef, undef, undef, undef, undef, undef, undef, undef, undef, undef, undef, undef, undef, undef, undef]).toArray, []⟩ ∧ At w0 w h_2 ∧ K x45 h_2) H (fun hb_1 H => ?_) (fun hb_1 H => ?_) ?_
            · refine ls_move (x := x0) (by rw [hb_1]; kernel_rfl) (by kernel_rfl) ?_
              refine ls_p (d := some 42) (by kernel_rfl) (by rw [hb_1]; kernel_rfl) (p_ixs Try.underlying24 Try.sizeOf3 (by kernel_rfl) (by kernel_rfl) H) (fun x42 H => ?_)
              refine ls_y (d := some 43) (by kernel_rfl) (by rw [hb_1]; kernel_rfl) HA_3 (y_ld Try.isAgg3 (by kernel_rfl) H) (fun x43 H => ?_)
              refine ls_d (d := some 44) (by kernel_rfl) (by rw [hb_1]; kernel_rfl) HA_3 (d_call (by kernel_rfl) (by kernel_rfl) H) (fun x44 h_5 w_8 H HA_8 => ?_)
              refine ls_pick_t (x := x44) (by kernel_rfl) (by rw [hb_1]; kernel_rfl) (by kernel_rfl) ?_
              refine ls_nil ?_
              refine then_normal ?_
              exact ⟨(fun i => ([x0, x42, x43, x44]).getD i undef), x44, h_5, by kernel_rfl, HA_8, H⟩
            · refine ls_skip (d := some 41) (by kernel_rfl) (by rw [hb_1]; kernel_rfl) ?_
              refine ls_skip (d := some 42) (by kernel_rfl) (by rw [hb_1]; kernel_rfl) ?_
              refine ls_skip (d := some 43) (by kernel_rfl) (by rw [hb_1]; kernel_rfl) ?_
              refine ls_skip (d := some 44) (by kernel_rfl) (by rw [hb_1]; kernel_rfl) ?_
              refine ls_pick_f (y := (.bool false)) (by kernel_rfl) (by rw [hb_1]; kernel_rfl) (by kernel_rfl) ?_
              refine ls_nil ?_
              refine then_normal ?_
              exact ⟨(fun i => ([undef, undef, undef, undef]).getD i undef), (.bool false), h_1, by kernel_rfl, HA_3, H⟩
            · rintro _ w_4 ⟨D_4, x45, h_2, rfl, HA_4, H⟩
              refine ls_move (x := x45) (by kernel_rfl) (by kernel_rfl) ?_
              refine ls_andh [(), (), (), (), ()] (fun K a w => ∃ (D_5 : Nat → Value) (x51 : Value) (h_3 : Heap), a = ⟨([x0, undef, (.int .i64 0), (.int .i64 0), x19, x0, x6, x7, x7, (D 0), (D 1), (D 2), (D 3), x13, x13, (D_1 0), (D_1 1), (D_1 2), (D_1 3), x19, undef, undef, undef, undef, undef, x0, x26, x27, x27, (D_2 0), (D_2 1), (D_2 2), (D_2 3), x33, x33, (D_3 0), (D_3 1), (D_3 2), (D_3 3), x39, x39, (D_4 0), (D_4 1), (D_4 2), (D_4 3), x45, x45, (D_5 0), (D_5 1), (D_5 2)] ++ [(D_5 3), x51, undef, undef, undef, undef, undef, undef, undef, undef, undef, undef, undef, undef, undef, undef]).toArray, []⟩ ∧ At w0 w h_3 ∧ K x51 h_3) H (fun hb H => ?_) (fun hb H => ?_) ?_
              · refine ls_move (x := x0) (by rw [hb]; kernel_rfl) (by kernel_rfl) ?_
                refine ls_p (d := some 48) (by kernel_rfl) (by rw [hb]; kernel_rfl) (p_ixs Try.underlying24 Try.sizeOf3 (by kernel_rfl) (by kernel_rfl) H) (fun x48 H => ?_)
                refine ls_y (d := some 49) (by kernel_rfl) (by rw [hb]; kernel_rfl) HA_4 (y_ld Try.isAgg3 (by kernel_rfl) H) (fun x49 H => ?_)
                refine ls_d (d := some 50) (by kernel_rfl) (by rw [hb]; kernel_rfl) HA_4 (d_call (by kernel_rfl) (by kernel_rfl) H) (fun x50 h_4 w_7 H HA_7 => ?_)
                refine ls_pick_t (x := x50) (by kernel_rfl) (by rw [hb]; kernel_rfl) (by kernel_rfl) ?_
                refine ls_nil ?_
                refine then_normal ?_
                exact ⟨(fun i => ([x0, x48, x49, x50]).getD i undef), x50, h_4, by kernel_rfl, HA_7, H⟩
              · refine ls_skip (d := some 47) (by kernel_rfl) (by rw [hb]; kernel_rfl) ?_
                refine ls_skip (d := some 48) (by kernel_rfl) (by rw [hb]; kernel_rfl) ?_
                refine ls_skip (d := some 49) (by kernel_rfl) (by rw [hb]; kernel_rfl) ?_
                refine ls_skip (d := some 50) (by kernel_rfl) (by rw [hb]; kernel_rfl) ?_
                refine ls_pick_f (y := (.bool false)) (by kernel_rfl) (by rw [hb]; kernel_rfl) (by kernel_rfl) ?_
                refine ls_nil ?_
                refine then_normal ?_
                exact ⟨(fun i => ([undef, undef, undef, undef]).getD i undef), (.bool false), h_2, by kernel_rfl, HA_4, H⟩
              · rintro _ w_5 ⟨D_5, x51, h_3, rfl, HA_5, H⟩
                refine ls_assign (x := x51) (by kernel_rfl) (by kernel_rfl) ?_
                refine ls_nil ?_
                refine then_normal ?_
                refine fr_eq (b := ⟨([x0, undef, (.int .i64 0), (.int .i64 0), x19, x0, x6, x7, x7, (D 0), (D 1), (D 2), (D 3), x13, x13, (D_1 0), (D_1 1), (D_1 2), (D_1 3), x19, undef, undef, undef, undef, x51, x0, x26, x27, x27, (D_2 0), (D_2 1), (D_2 2), (D_2 3), x33, x33, (D_3 0), (D_3 1), (D_3 2), (D_3 3), x39, x39, (D_4 0), (D_4 1), (D_4 2), (D_4 3), x45, x45, (D_5 0), (D_5 1), (D_5 2)] ++ [(D_5 3), x51, undef, undef, undef, undef, undef, undef, undef, undef, undef, undef, undef, undef, undef, undef]).toArray, []⟩) (by kernel_rfl) ?_
                refine wp_if rfl H (fun H => ?_) (fun H => ?_)
                · refine wp_seq ?_
                  refine lwp_qt (by kernel_rfl) (by kernel_rfl) HA_5 ?_
                  refine lq_move (x := x0) (by kernel_rfl) (by kernel_rfl) ?_
                  refine lq_p (d := some 53) (by kernel_rfl) (by kernel_rfl) (p_ixs Try.underlying24 Try.sizeOf3 (by kernel_rfl) (by kernel_rfl) H) (fun x53 H => ?_)
                  refine lq_y (d := some 54) (by kernel_rfl) (by kernel_rfl) HA_5 (y_ld Try.isAgg3 (by kernel_rfl) H) (fun x54 H => ?_)
                  refine lq_p (d := some 55) (by kernel_rfl) (by kernel_rfl) (p_shl (by kernel_rfl) (by kernel_rfl) H) (fun x55 H => ?_)
                  refine lq_p (d := some 56) (by kernel_rfl) (by kernel_rfl) (p_add (by kernel_rfl) (by kernel_rfl) H) (fun x56 H => ?_)
                  refine lq_move (x := x0) (by kernel_rfl) (by kernel_rfl) ?_
                  refine lq_fr (b := ⟨([x0, undef, (.int .i64 0), (.int .i64 0), x19, x0, x6, x7, x7, (D 0), (D 1), (D 2), (D 3), x13, x13, (D_1 0), (D_1 1), (D_1 2), (D_1 3), x19, undef, undef, undef, undef, x51, x0, x26, x27, x27, (D_2 0), (D_2 1), (D_2 2), (D_2 3), x33, x33, (D_3 0), (D_3 1), (D_3 2), (D_3 3), x39, x39, (D_4 0), (D_4 1), (D_4 2), (D_4 3), x45, x45, (D_5 0), (D_5 1), (D_5 2)] ++ [(D_5 3), x51, x0, x53, x54, x55, x56, x0, undef, undef, undef, undef, undef, undef, undef, undef]).toArray, []⟩) (by kernel_rfl) ?_
                  refine lq_p (d := some 58) (by kernel_rfl) (by kernel_rfl) (p_ixs Try.underlying24 Try.sizeOf3 (by kernel_rfl) (by kernel_rfl) H) (fun x58 H => ?_)
                  refine lq_y (d := some 59) (by kernel_rfl) (by kernel_rfl) HA_5 (y_ld Try.isAgg3 (by kernel_rfl) H) (fun x59 H => ?_)
                  refine lq_p (d := some 60) (by kernel_rfl) (by kernel_rfl) (p_shl (by kernel_rfl) (by kernel_rfl) H) (fun x60 H => ?_)
                  refine lq_p (d := some 61) (by kernel_rfl) (by kernel_rfl) (p_add (by kernel_rfl) (by kernel_rfl) H) (fun x61 H => ?_)
                  refine lq_move (x := x0) (by kernel_rfl) (by kernel_rfl) ?_
                  refine lq_p (d := some 63) (by kernel_rfl) (by kernel_rfl) (p_ixs Try.underlying24 Try.sizeOf3 (by kernel_rfl) (by kernel_rfl) H) (fun x63 H => ?_)
                  refine lq_fr (b := ⟨([x0, undef, (.int .i64 0), (.int .i64 0), x19, x0, x6, x7, x7, (D 0), (D 1), (D 2), (D 3), x13, x13, (D_1 0), (D_1 1), (D_1 2), (D_1 3), x19, undef, undef, undef, undef, x51, x0, x26, x27, x27, (D_2 0), (D_2 1), (D_2 2), (D_2 3), x33, x33, (D_3 0), (D_3 1), (D_3 2), (D_3 3), x39, x39, (D_4 0), (D_4 1), (D_4 2), (D_4 3), x45, x45, (D_5 0), (D_5 1), (D_5 2)] ++ [(D_5 3), x51, x0, x53, x54, x55, x56, x0, x58, x59, x60, x61, x0, x63, undef, undef]).toArray, []⟩) (by kernel_rfl) ?_
                  refine lq_y (d := some 64) (by kernel_rfl) (by kernel_rfl) HA_5 (y_ld Try.isAgg3 (by kernel_rfl) H) (fun x64 H => ?_)
                  refine lq_p (d := some 65) (by kernel_rfl) (by kernel_rfl) (p_add (by kernel_rfl) (by kernel_rfl) H) (fun x65 H => ?_)
                  refine lq_assign (x := x65) (by kernel_rfl) (by kernel_rfl) ?_
                  refine lq_assign (x := (.int .i64 4)) (by kernel_rfl) (by kernel_rfl) ?_
                  refine lq_nil ?_
                  intro w_6 HA_6
                  refine then_normal ?_
                  refine fr_eq (b := ⟨([x0, undef, x65, (.int .i64 4), x19, x0, x6, x7, x7, (D 0), (D 1), (D 2), (D 3), x13, x13, (D_1 0), (D_1 1), (D_1 2), (D_1 3), x19, undef, undef, undef, undef, x51, x0, x26, x27, x27, (D_2 0), (D_2 1), (D_2 2), (D_2 3), x33, x33, (D_3 0), (D_3 1), (D_3 2), (D_3 3), x39, x39, (D_4 0), (D_4 1), (D_4 2), (D_4 3), x45, x45, (D_5 0), (D_5 1), (D_5 2)] ++ [(D_5 3), x51, x0, x53, x54, x55, x56, x0, x58, x59, x60, x61, x0, x63, x64, x65]).toArray, []⟩) (by kernel_rfl) ?_
                  refine wp_ret ?_
                  refine block_ret ?_
                  refine then_ret ?_
                  exact end2 (Try.results51) (by kernel_rfl) (by kernel_rfl) (by kernel_rfl) HA_6 H _ (.inr rfl)
                · refine wp_skip ?_
                  refine block_normal ?_
                  refine then_normal ?_
                  refine fr_eq (b := ⟨([x0, undef, (.int .i64 0), (.int .i64 0), x19, x0, x6, x7, x7, (D 0), (D 1), (D 2), (D 3), x13, x13, (D_1 0), (D_1 1), (D_1 2), (D_1 3), x19, undef, undef, undef, undef, x51, x0, x26, x27, x27, (D_2 0), (D_2 1), (D_2 2), (D_2 3), x33, x33, (D_3 0), (D_3 1), (D_3 2), (D_3 3), x39, x39, (D_4 0), (D_4 1), (D_4 2), (D_4 3), x45, x45, (D_5 0), (D_5 1), (D_5 2)] ++ [(D_5 3), x51, undef, undef, undef, undef, undef, undef, undef, undef, undef, undef, undef, undef, undef, undef]).toArray, []⟩) (by kernel_rfl) ?_
                  refine wp_seq ?_
                  refine lwp_list ?_
                  refine ls_assign (x := (.int .i64 0)) (by kernel_rfl) (by kernel_rfl) ?_
                  refine ls_assign (x := (.int .i64 0)) (by kernel_rfl) (by kernel_rfl) ?_
                  refine ls_nil ?_
                  refine then_normal ?_
                  refine fr_eq (b := ⟨([x0, undef, (.int .i64 0), (.int .i64 0), x19, x0, x6, x7, x7, (D 0), (D 1), (D 2), (D 3), x13, x13, (D_1 0), (D_1 1), (D_1 2), (D_1 3), x19, undef, undef, undef, undef, x51, x0, x26, x27, x27, (D_2 0), (D_2 1), (D_2 2), (D_2 3), x33, x33, (D_3 0), (D_3 1), (D_3 2), (D_3 3), x39, x39, (D_4 0), (D_4 1), (D_4 2), (D_4 3), x45, x45, (D_5 0), (D_5 1), (D_5 2)] ++ [(D_5 3), x51, undef, undef, undef, undef, undef, undef, undef, undef, undef, undef, undef, undef, undef, undef]).toArray, []⟩) (by kernel_rfl) ?_
                  refine wp_ret ?_
                  exact end2 (Try.results51) (by kernel_rfl) (by kernel_rfl) (by kernel_rfl) HA_5 H _ (.inr rfl)

end Go.Proofs.Ytkagmlpnidijaaa
