/- The shallow reading of one function, and that the function does it. Written by a program. -/
import Derived.Test.YtbgipcikkedloaaFnC
set_option linter.unusedVariables false
namespace Go.Proofs.Ytbgipcikkedloaa
open Go Go.HW

def betonylaw10_FrameOthers_l2 (R : Value → Heap → Prop) (next : Value → Heap → Prop) (x13 x4 x23 x42 : Value) (next1 : Value → Heap → Prop) (x7 : Value) (h_6 : Heap) : Prop :=
  sLt x7 (.int .i64 144) fun x44 =>
  sIf x44 (sLen x42 fun x48 =>
  sEq x48 (.int .i64 1) fun x49 =>
  sAnd x49 (fun k_2 =>
  sIxS x42 (.int .i64 0) 6 fun x52 =>
  sOff x52 0 fun x53 =>
  sLd h_6 x53 fun x54 =>
  sRem .i64 x7 (.int .i64 12) fun x56 =>
  sEq x54 x56 fun x57 =>
  k_2 x57) fun x58 =>
  sAnd x58 (fun k_1 =>
  sIxS x42 (.int .i64 0) 6 fun x61 =>
  sOff x61 1 fun x62 =>
  sLd h_6 x62 fun x63 =>
  sQuo .i64 x7 (.int .i64 12) fun x65 =>
  sEq x63 x65 fun x66 =>
  k_1 x66) fun x67 =>
  sNot x67 fun x69 =>
  sAndH x69 h_6 (fun k =>
  sNil x13 fun x72 =>
  sOff x72 0 fun x73 =>
  sLd h_6 x73 fun x74 =>
  sRem .i64 x7 (.int .i64 12) fun x76 =>
  sQuo .i64 x7 (.int .i64 12) fun x78 =>
  grid_Grid_At_c x74 x76 x78 h_6 fun x79 h_8 => 
  sRem .i64 x7 (.int .i64 12) fun x82 =>
  sQuo .i64 x7 (.int .i64 12) fun x84 =>
  grid_Grid_At_c x23 x82 x84 h_8 fun x85 h_9 => 
  sNeqAgg x79 x85 [some .i32, some .i64, some .i64, some .i64] fun x86 =>
  k x86 h_9) fun x87 h_7 =>
  sIf x87 (R (.bool false) h_7) (sAdd .i64 x7 (.int .i64 1) fun x46 =>
  next1 x46 h_7)) (sLen x42 fun x89 =>
  sGt x89 (.int .i64 1) fun x90 =>
  sIf x90 (R (.bool false) h_6) (sAdd .i64 x4 (.int .i64 1) fun x21 =>
  next x21 h_6))
def betonylaw10_FrameOthers_l1 (R : Value → Heap → Prop) (x0 x13 : Value) (next : Value → Heap → Prop) (x4 : Value) (h_2 : Heap) : Prop :=
  sLen x0 fun x18 =>
  sLt x4 x18 fun x19 =>
  sIf x19 (frame_Frame_Grid_c x13 h_2 fun x23 h_3 => 
  sIxS x0 x4 6 fun x27 =>
  sOff x27 0 fun x28 =>
  sLd h_3 x28 fun x29 =>
  sIxS x0 x4 6 fun x32 =>
  sOff x32 1 fun x33 =>
  sLd h_3 x33 fun x34 =>
  sIxS x0 x4 6 fun x37 =>
  sOff x37 2 fun x38 =>
  sLdN h_3 x38 4 fun x39 =>
  frame_Frame_Put_c x13 x29 x34 x39 h_3 fun x40 h_4 => 
  frame_Frame_Notes_c x13 h_4 fun x42 h_5 => 
  sLoop (S := Value) (fun nxt s h => betonylaw10_FrameOthers_l2 R next x13 x4 x23 x42 (fun x7' h => nxt x7' h) s h) (.int .i64 0) h_5) (betonylaw10_awake_c  h_2 fun x91 h_10 => 
  R x91 h_10)
def betonylaw10_FrameOthers_S (x0 : Value) (h : Heap) (R : Value → Heap → Prop) : Prop :=
  sLen x0 fun x10 =>
  sGt x10 (.int .i64 60) fun x11 =>
  sIf x11 (betonylaw10_awake_c  h fun x12 h => 
  R x12 h) (frame_New_c (.int .i64 12) (.int .i64 12) h fun x13 h_1 => 
  sEqlNil x13 fun x15 =>
  sIf x15 (R (.bool false) h_1) (sLoop (S := Value) (fun nxt s h => betonylaw10_FrameOthers_l1 R x0 x13 (fun x4' h => nxt x4' h) s h) (.int .i64 0) h_1))
set_option maxRecDepth 100000 in
theorem betonylaw10_FrameOthers_runs {x0 : Value} {h : Heap} {R : Value → Heap → Prop} (H : betonylaw10_FrameOthers_S x0 h R) : betonylaw10_FrameOthers_c x0 h R := by
  unfold betonylaw10_FrameOthers_S at H
  refine runs_of (b := ⟨([x0, undef, undef, undef, undef, undef, undef, undef, undef, undef, undef, undef, undef, undef, undef, undef, undef, undef, undef, undef, undef, undef, undef, undef, undef, undef, undef, undef, undef, undef, undef, undef, undef, undef, undef, undef, undef, undef, undef, undef, undef, undef, undef, undef, undef, undef, undef, undef, undef, undef] ++ [undef, undef, undef, undef, undef, undef, undef, undef, undef, undef, undef, undef, undef, undef, undef, undef, undef, undef, undef, undef, undef, undef, undef, undef, undef, undef, undef, undef, undef, undef, undef, undef, undef, undef, undef, undef, undef, undef, undef, undef, undef, undef]).toArray, []⟩) Try.call3 Try.func3 rfl (by kernel_rfl) (fun w0 HA => ?_)
  refine wp_seq ?_
  refine lwp_list ?_
  refine ls_assign (x := (.bool false)) (by kernel_rfl) (by kernel_rfl) ?_
  refine ls_nil ?_
  refine then_normal ?_
  refine fr_eq (b := ⟨([x0, undef, (.bool false), undef, undef, undef, undef, undef, undef, undef, undef, undef, undef, undef, undef, undef, undef, undef, undef, undef, undef, undef, undef, undef, undef, undef, undef, undef, undef, undef, undef, undef, undef, undef, undef, undef, undef, undef, undef, undef, undef, undef, undef, undef, undef, undef, undef, undef, undef, undef] ++ [undef, undef, undef, undef, undef, undef, undef, undef, undef, undef, undef, undef, undef, undef, undef, undef, undef, undef, undef, undef, undef, undef, undef, undef, undef, undef, undef, undef, undef, undef, undef, undef, undef, undef, undef, undef, undef, undef, undef, undef, undef, undef]).toArray, []⟩) (by kernel_rfl) ?_
  refine wp_seq ?_
  refine wp_seq ?_
  refine lwp_list ?_
  refine ls_move (x := x0) (by kernel_rfl) (by kernel_rfl) ?_
  refine ls_p (d := some 10) (by kernel_rfl) (by kernel_rfl) (p_len Try.underlying22 (by kernel_rfl) H) (fun x10 H => ?_)
  refine ls_p (d := some 11) (by kernel_rfl) (by kernel_rfl) (p_sGt (by kernel_rfl) (by kernel_rfl) H) (fun x11 H => ?_)
  refine ls_nil ?_
  refine then_normal ?_
  refine fr_eq (b := ⟨([x0, undef, (.bool false), undef, undef, undef, undef, undef, undef, x0, x10, x11, undef, undef, undef, undef, undef, undef, undef, undef, undef, undef, undef, undef, undef, undef, undef, undef, undef, undef, undef, undef, undef, undef, undef, undef, undef, undef, undef, undef, undef, undef, undef, undef, undef, undef, undef, undef, undef, undef] ++ [undef, undef, undef, undef, undef, undef, undef, undef, undef, undef, undef, undef, undef, undef, undef, undef, undef, undef, undef, undef, undef, undef, undef, undef, undef, undef, undef, undef, undef, undef, undef, undef, undef, undef, undef, undef, undef, undef, undef, undef, undef, undef]).toArray, []⟩) (by kernel_rfl) ?_
  refine wp_if rfl H (fun H => ?_) (fun H => ?_)
  · refine wp_seq ?_
    refine lwp_list ?_
    refine ls_d (d := some 12) (by kernel_rfl) (by kernel_rfl) HA (d_call (by kernel_rfl) (by kernel_rfl) H) (fun x12 h w H HA => ?_)
    refine ls_assign (x := x12) (by kernel_rfl) (by kernel_rfl) ?_
    refine ls_nil ?_
    refine then_normal ?_
    refine fr_eq (b := ⟨([x0, undef, x12, undef, undef, undef, undef, undef, undef, x0, x10, x11, x12, undef, undef, undef, undef, undef, undef, undef, undef, undef, undef, undef, undef, undef, undef, undef, undef, undef, undef, undef, undef, undef, undef, undef, undef, undef, undef, undef, undef, undef, undef, undef, undef, undef, undef, undef, undef, undef] ++ [undef, undef, undef, undef, undef, undef, undef, undef, undef, undef, undef, undef, undef, undef, undef, undef, undef, undef, undef, undef, undef, undef, undef, undef, undef, undef, undef, undef, undef, undef, undef, undef, undef, undef, undef, undef, undef, undef, undef, undef, undef, undef]).toArray, []⟩) (by kernel_rfl) ?_
    refine wp_ret ?_
    refine then_ret ?_
    exact end1 (Try.results3) (by kernel_rfl) (by kernel_rfl) HA H _ (.inr rfl)
  · refine wp_skip ?_
    refine then_normal ?_
    refine fr_eq (b := ⟨([x0, undef, (.bool false), undef, undef, undef, undef, undef, undef, x0, x10, x11, undef, undef, undef, undef, undef, undef, undef, undef, undef, undef, undef, undef, undef, undef, undef, undef, undef, undef, undef, undef, undef, undef, undef, undef, undef, undef, undef, undef, undef, undef, undef, undef, undef, undef, undef, undef, undef, undef] ++ [undef, undef, undef, undef, undef, undef, undef, undef, undef, undef, undef, undef, undef, undef, undef, undef, undef, undef, undef, undef, undef, undef, undef, undef, undef, undef, undef, undef, undef, undef, undef, undef, undef, undef, undef, undef, undef, undef, undef, undef, undef, undef]).toArray, []⟩) (by kernel_rfl) ?_
    refine wp_seq ?_
    refine lwp_list ?_
    refine ls_d (d := some 13) (by kernel_rfl) (by kernel_rfl) HA (d_call (by kernel_rfl) (by kernel_rfl) H) (fun x13 h_1 w_1 H HA_1 => ?_)
    refine ls_assign (x := x13) (by kernel_rfl) (by kernel_rfl) ?_
    refine ls_nil ?_
    refine then_normal ?_
    refine fr_eq (b := ⟨([x0, undef, (.bool false), x13, undef, undef, undef, undef, undef, x0, x10, x11, undef, x13, undef, undef, undef, undef, undef, undef, undef, undef, undef, undef, undef, undef, undef, undef, undef, undef, undef, undef, undef, undef, undef, undef, undef, undef, undef, undef, undef, undef, undef, undef, undef, undef, undef, undef, undef, undef] ++ [undef, undef, undef, undef, undef, undef, undef, undef, undef, undef, undef, undef, undef, undef, undef, undef, undef, undef, undef, undef, undef, undef, undef, undef, undef, undef, undef, undef, undef, undef, undef, undef, undef, undef, undef, undef, undef, undef, undef, undef, undef, undef]).toArray, []⟩) (by kernel_rfl) ?_
    refine wp_seq ?_
    refine wp_seq ?_
    refine lwp_list ?_
    refine ls_move (x := x13) (by kernel_rfl) (by kernel_rfl) ?_
    refine ls_p (d := some 15) (by kernel_rfl) (by kernel_rfl) (p_eqlNil Try.underlying24 (by kernel_rfl) (by kernel_rfl) H) (fun x15 H => ?_)
    refine ls_nil ?_
    refine then_normal ?_
    refine fr_eq (b := ⟨([x0, undef, (.bool false), x13, undef, undef, undef, undef, undef, x0, x10, x11, undef, x13, x13, x15, undef, undef, undef, undef, undef, undef, undef, undef, undef, undef, undef, undef, undef, undef, undef, undef, undef, undef, undef, undef, undef, undef, undef, undef, undef, undef, undef, undef, undef, undef, undef, undef, undef, undef] ++ [undef, undef, undef, undef, undef, undef, undef, undef, undef, undef, undef, undef, undef, undef, undef, undef, undef, undef, undef, undef, undef, undef, undef, undef, undef, undef, undef, undef, undef, undef, undef, undef, undef, undef, undef, undef, undef, undef, undef, undef, undef, undef]).toArray, []⟩) (by kernel_rfl) ?_
    refine wp_if rfl H (fun H => ?_) (fun H => ?_)
    · refine wp_seq ?_
      refine lwp_list ?_
      refine ls_assign (x := (.bool false)) (by kernel_rfl) (by kernel_rfl) ?_
      refine ls_nil ?_
      refine then_normal ?_
      refine fr_eq (b := ⟨([x0, undef, (.bool false), x13, undef, undef, undef, undef, undef, x0, x10, x11, undef, x13, x13, x15, undef, undef, undef, undef, undef, undef, undef, undef, undef, undef, undef, undef, undef, undef, undef, undef, undef, undef, undef, undef, undef, undef, undef, undef, undef, undef, undef, undef, undef, undef, undef, undef, undef, undef] ++ [undef, undef, undef, undef, undef, undef, undef, undef, undef, undef, undef, undef, undef, undef, undef, undef, undef, undef, undef, undef, undef, undef, undef, undef, undef, undef, undef, undef, undef, undef, undef, undef, undef, undef, undef, undef, undef, undef, undef, undef, undef, undef]).toArray, []⟩) (by kernel_rfl) ?_
      refine wp_ret ?_
      refine then_ret ?_
      exact end1 (Try.results3) (by kernel_rfl) (by kernel_rfl) HA_1 H _ (.inr rfl)
    · refine wp_skip ?_
      refine then_normal ?_
      refine fr_eq (b := ⟨([x0, undef, (.bool false), x13, undef, undef, undef, undef, undef, x0, x10, x11, undef, x13, x13, x15, undef, undef, undef, undef, undef, undef, undef, undef, undef, undef, undef, undef, undef, undef, undef, undef, undef, undef, undef, undef, undef, undef, undef, undef, undef, undef, undef, undef, undef, undef, undef, undef, undef, undef] ++ [undef, undef, undef, undef, undef, undef, undef, undef, undef, undef, undef, undef, undef, undef, undef, undef, undef, undef, undef, undef, undef, undef, undef, undef, undef, undef, undef, undef, undef, undef, undef, undef, undef, undef, undef, undef, undef, undef, undef, undef, undef, undef]).toArray, []⟩) (by kernel_rfl) ?_
      refine wp_seq ?_
      refine wp_seq ?_
      refine lwp_list ?_
      refine ls_assign (x := (.int .i64 0)) (by kernel_rfl) (by kernel_rfl) ?_
      refine ls_nil ?_
      refine then_normal ?_
      refine fr_eq (b := ⟨([x0, undef, (.bool false), x13, (.int .i64 0), undef, undef, undef, undef, x0, x10, x11, undef, x13, x13, x15, undef, undef, undef, undef, undef, undef, undef, undef, undef, undef, undef, undef, undef, undef, undef, undef, undef, undef, undef, undef, undef, undef, undef, undef, undef, undef, undef, undef, undef, undef, undef, undef, undef, undef] ++ [undef, undef, undef, undef, undef, undef, undef, undef, undef, undef, undef, undef, undef, undef, undef, undef, undef, undef, undef, undef, undef, undef, undef, undef, undef, undef, undef, undef, undef, undef, undef, undef, undef, undef, undef, undef, undef, undef, undef, undef, undef, undef]).toArray, []⟩) (by kernel_rfl) ?_
      refine wp_block ?_
      obtain ⟨I, m, H0, HB⟩ := H
      refine wp_loop (fun a w => ∃ (D : Nat → Value) (x4 : Value) (h_2 : Heap), a = ⟨([x0, undef, (D 0), x13, x4, (D 1), (D 2), (D 3), (D 4), x0, x10, x11, undef, x13, x13, x15, (D 5), (D 6), (D 7), (D 8), (D 9), (D 10), (D 11), (D 12), (D 13), (D 14), (D 15), (D 16), (D 17), (D 18), (D 19), (D 20), (D 21), (D 22), (D 23), (D 24), (D 25), (D 26), (D 27), (D 28), (D 29), (D 30), (D 31), (D 32), (D 33), (D 34), (D 35), (D 36), (D 37), (D 38)] ++ [(D 39), (D 40), (D 41), (D 42), (D 43), (D 44), (D 45), (D 46), (D 47), (D 48), (D 49), (D 50), (D 51), (D 52), (D 53), (D 54), (D 55), (D 56), (D 57), (D 58), (D 59), (D 60), (D 61), (D 62), (D 63), (D 64), (D 65), (D 66), (D 67), (D 68), (D 69), (D 70), (D 71), (D 72), (D 73), (D 74), (D 75), (D 76), (D 77), (D 78), (D 79), undef]).toArray, []⟩ ∧ At w0 w h_2 ∧ I x4 h_2) (fun a w => m (a.tmps.getD 4 undef) w.heap) ?_ ?_
      · exact ⟨(fun i => ([(.bool false), undef, undef, undef, undef, undef, undef, undef, undef, undef, undef, undef, undef, undef, undef, undef, undef, undef, undef, undef, undef, undef, undef, undef, undef, undef, undef, undef, undef, undef, undef, undef, undef, undef, undef, undef, undef, undef, undef, undef, undef, undef, undef, undef, undef, undef, undef, undef, undef, undef] ++ [undef, undef, undef, undef, undef, undef, undef, undef, undef, undef, undef, undef, undef, undef, undef, undef, undef, undef, undef, undef, undef, undef, undef, undef, undef, undef, undef, undef, undef, undef]).getD i undef), (.int .i64 0), h_1, by kernel_rfl, HA_1, H0⟩
      · rintro _ w_2 ⟨D, x4, h_2, rfl, HA_2, HI⟩
        have H : betonylaw10_FrameOthers_l1 R x0 x13 (fun x4' h' => I x4' h' ∧ m x4' h' < m x4 h_2) x4 h_2 := HB x4 h_2 HI
        clear HB H0 HI
        unfold betonylaw10_FrameOthers_l1 at H
        refine wp_seq ?_
        refine wp_seq ?_
        refine lwp_list ?_
        refine ls_move (x := x4) (by kernel_rfl) (by kernel_rfl) ?_
        refine ls_move (x := x0) (by kernel_rfl) (by kernel_rfl) ?_
        refine ls_p (d := some 18) (by kernel_rfl) (by kernel_rfl) (p_len Try.underlying22 (by kernel_rfl) H) (fun x18 H => ?_)
        refine ls_p (d := some 19) (by kernel_rfl) (by kernel_rfl) (p_sLt (by kernel_rfl) (by kernel_rfl) H) (fun x19 H => ?_)
        refine ls_nil ?_
        refine then_normal ?_
        refine fr_eq (b := ⟨([x0, undef, (D 0), x13, x4, (D 1), (D 2), (D 3), (D 4), x0, x10, x11, undef, x13, x13, x15, x4, x0, x18, x19, (D 9), (D 10), (D 11), (D 12), (D 13), (D 14), (D 15), (D 16), (D 17), (D 18), (D 19), (D 20), (D 21), (D 22), (D 23), (D 24), (D 25), (D 26), (D 27), (D 28), (D 29), (D 30), (D 31), (D 32), (D 33), (D 34), (D 35), (D 36), (D 37), (D 38)] ++ [(D 39), (D 40), (D 41), (D 42), (D 43), (D 44), (D 45), (D 46), (D 47), (D 48), (D 49), (D 50), (D 51), (D 52), (D 53), (D 54), (D 55), (D 56), (D 57), (D 58), (D 59), (D 60), (D 61), (D 62), (D 63), (D 64), (D 65), (D 66), (D 67), (D 68), (D 69), (D 70), (D 71), (D 72), (D 73), (D 74), (D 75), (D 76), (D 77), (D 78), (D 79), undef]).toArray, []⟩) (by kernel_rfl) ?_
        refine wp_if rfl H (fun H => ?_) (fun H => ?_)
        · refine wp_skip ?_
          refine then_normal ?_
          refine fr_eq (b := ⟨([x0, undef, (D 0), x13, x4, (D 1), (D 2), (D 3), (D 4), x0, x10, x11, undef, x13, x13, x15, x4, x0, x18, x19, (D 9), (D 10), (D 11), (D 12), (D 13), (D 14), (D 15), (D 16), (D 17), (D 18), (D 19), (D 20), (D 21), (D 22), (D 23), (D 24), (D 25), (D 26), (D 27), (D 28), (D 29), (D 30), (D 31), (D 32), (D 33), (D 34), (D 35), (D 36), (D 37), (D 38)] ++ [(D 39), (D 40), (D 41), (D 42), (D 43), (D 44), (D 45), (D 46), (D 47), (D 48), (D 49), (D 50), (D 51), (D 52), (D 53), (D 54), (D 55), (D 56), (D 57), (D 58), (D 59), (D 60), (D 61), (D 62), (D 63), (D 64), (D 65), (D 66), (D 67), (D 68), (D 69), (D 70), (D 71), (D 72), (D 73), (D 74), (D 75), (D 76), (D 77), (D 78), (D 79), undef]).toArray, []⟩) (by kernel_rfl) ?_
          refine wp_seq ?_
          refine wp_block ?_
          refine wp_seq ?_
          refine lwp_list ?_
          refine ls_move (x := x13) (by kernel_rfl) (by kernel_rfl) ?_
          refine ls_d (d := some 23) (by kernel_rfl) (by kernel_rfl) HA_2 (d_call (by kernel_rfl) (by kernel_rfl) H) (fun x23 h_3 w_3 H HA_3 => ?_)
          refine ls_assign (x := x23) (by kernel_rfl) (by kernel_rfl) ?_
          refine ls_nil ?_
          refine then_normal ?_
          refine fr_eq (b := ⟨([x0, undef, (D 0), x13, x4, x23, (D 2), (D 3), (D 4), x0, x10, x11, undef, x13, x13, x15, x4, x0, x18, x19, (D 9), (D 10), x13, x23, (D 13), (D 14), (D 15), (D 16), (D 17), (D 18), (D 19), (D 20), (D 21), (D 22), (D 23), (D 24), (D 25), (D 26), (D 27), (D 28), (D 29), (D 30), (D 31), (D 32), (D 33), (D 34), (D 35), (D 36), (D 37), (D 38)] ++ [(D 39), (D 40), (D 41), (D 42), (D 43), (D 44), (D 45), (D 46), (D 47), (D 48), (D 49), (D 50), (D 51), (D 52), (D 53), (D 54), (D 55), (D 56), (D 57), (D 58), (D 59), (D 60), (D 61), (D 62), (D 63), (D 64), (D 65), (D 66), (D 67), (D 68), (D 69), (D 70), (D 71), (D 72), (D 73), (D 74), (D 75), (D 76), (D 77), (D 78), (D 79), undef]).toArray, []⟩) (by kernel_rfl) ?_
          refine wp_seq ?_
          refine lwp_mx (Nat.testBit 65536) (Nat.testBit 0) (Nat.testBit 31711) [0, 0, 0, 6, 14, 30, 0, 0, 192, 448, 960, 0, 0, 6144, 14336, 30720, 65535] (fun h' => h' = h_3) [0, 1, 2, 3, 4, 5, 6, 7, 8, 9, 10, 11, 12, 13, 14, 15, 16] (by kernel_rfl) (by kernel_rfl) (by kernel_rfl) HA_3 rfl ?_
          intro w_4 HA_4
          refine lm_al (x := x13) (d := some 24) (by kernel_rfl) rfl (by kernel_rfl) (by kernel_rfl) (al_move (by kernel_rfl)) ?_
          refine lm_al (x := x0) (d := some 25) (by kernel_rfl) rfl (by kernel_rfl) (by kernel_rfl) (al_move (by kernel_rfl)) ?_
          refine lm_al (x := x4) (d := some 26) (by kernel_rfl) rfl (by kernel_rfl) (by kernel_rfl) (al_move (by kernel_rfl)) ?_
          refine lm_p (d := some 27) (by kernel_rfl) rfl (by kernel_rfl) (by kernel_rfl) (p_ixs Try.underlying22 Try.sizeOf34 (by kernel_rfl) (by kernel_rfl) H) (fun x27 H => ?_)
          refine lm_p (d := some 28) (by kernel_rfl) rfl (by kernel_rfl) (by kernel_rfl) (p_off Try.underlying34 rfl (fun w => ⟨_, Try.sizeOf3 w⟩) rfl (by kernel_rfl) H) (fun x28 H => ?_)
          refine lm_f (d := some 29) (by kernel_rfl) rfl (by kernel_rfl) (by kernel_rfl) (by kernel_rfl) (of_eq (y_ld Try.isAgg3 (by kernel_rfl) H)) (fun x29 H => ?_)
          refine lm_fr (b := ⟨([x0, undef, (D 0), x13, x4, x23, (D 2), (D 3), (D 4), x0, x10, x11, undef, x13, x13, x15, x4, x0, x18, x19, (D 9), (D 10), x13, x23, x13, x0, x4, x27, x28, x29, (D 19), (D 20), (D 21), (D 22), (D 23), (D 24), (D 25), (D 26), (D 27), (D 28), (D 29), (D 30), (D 31), (D 32), (D 33), (D 34), (D 35), (D 36), (D 37), (D 38)] ++ [(D 39), (D 40), (D 41), (D 42), (D 43), (D 44), (D 45), (D 46), (D 47), (D 48), (D 49), (D 50), (D 51), (D 52), (D 53), (D 54), (D 55), (D 56), (D 57), (D 58), (D 59), (D 60), (D 61), (D 62), (D 63), (D 64), (D 65), (D 66), (D 67), (D 68), (D 69), (D 70), (D 71), (D 72), (D 73), (D 74), (D 75), (D 76), (D 77), (D 78), (D 79), undef]).toArray, []⟩) (by kernel_rfl) ?_
          refine lm_al (x := x0) (d := some 30) (by kernel_rfl) rfl (by kernel_rfl) (by kernel_rfl) (al_move (by kernel_rfl)) ?_
          refine lm_al (x := x4) (d := some 31) (by kernel_rfl) rfl (by kernel_rfl) (by kernel_rfl) (al_move (by kernel_rfl)) ?_
          refine lm_p (d := some 32) (by kernel_rfl) rfl (by kernel_rfl) (by kernel_rfl) (p_ixs Try.underlying22 Try.sizeOf34 (by kernel_rfl) (by kernel_rfl) H) (fun x32 H => ?_)
          refine lm_p (d := some 33) (by kernel_rfl) rfl (by kernel_rfl) (by kernel_rfl) (p_off Try.underlying34 rfl (fun w => ⟨_, Try.sizeOf3 w⟩) rfl (by kernel_rfl) H) (fun x33 H => ?_)
          refine lm_f (d := some 34) (by kernel_rfl) rfl (by kernel_rfl) (by kernel_rfl) (by kernel_rfl) (of_eq (y_ld Try.isAgg3 (by kernel_rfl) H)) (fun x34 H => ?_)
          refine lm_al (x := x0) (d := some 35) (by kernel_rfl) rfl (by kernel_rfl) (by kernel_rfl) (al_move (by kernel_rfl)) ?_
          refine lm_fr (b := ⟨([x0, undef, (D 0), x13, x4, x23, (D 2), (D 3), (D 4), x0, x10, x11, undef, x13, x13, x15, x4, x0, x18, x19, (D 9), (D 10), x13, x23, x13, x0, x4, x27, x28, x29, x0, x4, x32, x33, x34, x0, (D 25), (D 26), (D 27), (D 28), (D 29), (D 30), (D 31), (D 32), (D 33), (D 34), (D 35), (D 36), (D 37), (D 38)] ++ [(D 39), (D 40), (D 41), (D 42), (D 43), (D 44), (D 45), (D 46), (D 47), (D 48), (D 49), (D 50), (D 51), (D 52), (D 53), (D 54), (D 55), (D 56), (D 57), (D 58), (D 59), (D 60), (D 61), (D 62), (D 63), (D 64), (D 65), (D 66), (D 67), (D 68), (D 69), (D 70), (D 71), (D 72), (D 73), (D 74), (D 75), (D 76), (D 77), (D 78), (D 79), undef]).toArray, []⟩) (by kernel_rfl) ?_
          refine lm_al (x := x4) (d := some 36) (by kernel_rfl) rfl (by kernel_rfl) (by kernel_rfl) (al_move (by kernel_rfl)) ?_
          refine lm_p (d := some 37) (by kernel_rfl) rfl (by kernel_rfl) (by kernel_rfl) (p_ixs Try.underlying22 Try.sizeOf34 (by kernel_rfl) (by kernel_rfl) H) (fun x37 H => ?_)
          refine lm_p (d := some 38) (by kernel_rfl) rfl (by kernel_rfl) (by kernel_rfl) (p_off Try.underlying34 rfl (fun w => ⟨_, Try.sizeOf32 w⟩) rfl (by kernel_rfl) H) (fun x38 H => ?_)
          refine lm_f (d := some 39) (by kernel_rfl) rfl (by kernel_rfl) (by kernel_rfl) (by kernel_rfl) (of_eq (y_ldn Try.isAgg32 Try.sizeOf32 (by kernel_rfl) H)) (fun x39 H => ?_)
          refine lm_d (d := some 40) (by kernel_rfl) rfl (by kernel_rfl) (by kernel_rfl) (by kernel_rfl) HA_4 (d_call (by kernel_rfl) (by kernel_rfl) H) (fun x40 h_4 w_5 H HA_5 => ?_)
          refine lm_nil ?_
          refine then_normal ?_
          refine fr_eq (b := ⟨([x0, undef, (D 0), x13, x4, x23, (D 2), (D 3), (D 4), x0, x10, x11, undef, x13, x13, x15, x4, x0, x18, x19, (D 9), (D 10), x13, x23, x13, x0, x4, x27, x28, x29, x0, x4, x32, x33, x34, x0, x4, x37, x38, x39, x40, (D 30), (D 31), (D 32), (D 33), (D 34), (D 35), (D 36), (D 37), (D 38)] ++ [(D 39), (D 40), (D 41), (D 42), (D 43), (D 44), (D 45), (D 46), (D 47), (D 48), (D 49), (D 50), (D 51), (D 52), (D 53), (D 54), (D 55), (D 56), (D 57), (D 58), (D 59), (D 60), (D 61), (D 62), (D 63), (D 64), (D 65), (D 66), (D 67), (D 68), (D 69), (D 70), (D 71), (D 72), (D 73), (D 74), (D 75), (D 76), (D 77), (D 78), (D 79), undef]).toArray, []⟩) (by kernel_rfl) ?_
          refine wp_seq ?_
          refine lwp_list ?_
          refine ls_move (x := x13) (by kernel_rfl) (by kernel_rfl) ?_
          refine ls_d (d := some 42) (by kernel_rfl) (by kernel_rfl) HA_5 (d_call (by kernel_rfl) (by kernel_rfl) H) (fun x42 h_5 w_6 H HA_6 => ?_)
          refine ls_assign (x := x42) (by kernel_rfl) (by kernel_rfl) ?_
          refine ls_nil ?_
          refine then_normal ?_
          refine fr_eq (b := ⟨([x0, undef, (D 0), x13, x4, x23, x42, (D 3), (D 4), x0, x10, x11, undef, x13, x13, x15, x4, x0, x18, x19, (D 9), (D 10), x13, x23, x13, x0, x4, x27, x28, x29, x0, x4, x32, x33, x34, x0, x4, x37, x38, x39, x40, x13, x42, (D 32), (D 33), (D 34), (D 35), (D 36), (D 37), (D 38)] ++ [(D 39), (D 40), (D 41), (D 42), (D 43), (D 44), (D 45), (D 46), (D 47), (D 48), (D 49), (D 50), (D 51), (D 52), (D 53), (D 54), (D 55), (D 56), (D 57), (D 58), (D 59), (D 60), (D 61), (D 62), (D 63), (D 64), (D 65), (D 66), (D 67), (D 68), (D 69), (D 70), (D 71), (D 72), (D 73), (D 74), (D 75), (D 76), (D 77), (D 78), (D 79), undef]).toArray, []⟩) (by kernel_rfl) ?_
          refine wp_seq ?_
          refine wp_seq ?_
          refine lwp_list ?_
          refine ls_assign (x := (.int .i64 0)) (by kernel_rfl) (by kernel_rfl) ?_
          refine ls_nil ?_
          refine then_normal ?_
          refine fr_eq (b := ⟨([x0, undef, (D 0), x13, x4, x23, x42, (.int .i64 0), (D 4), x0, x10, x11, undef, x13, x13, x15, x4, x0, x18, x19, (D 9), (D 10), x13, x23, x13, x0, x4, x27, x28, x29, x0, x4, x32, x33, x34, x0, x4, x37, x38, x39, x40, x13, x42, (D 32), (D 33), (D 34), (D 35), (D 36), (D 37), (D 38)] ++ [(D 39), (D 40), (D 41), (D 42), (D 43), (D 44), (D 45), (D 46), (D 47), (D 48), (D 49), (D 50), (D 51), (D 52), (D 53), (D 54), (D 55), (D 56), (D 57), (D 58), (D 59), (D 60), (D 61), (D 62), (D 63), (D 64), (D 65), (D 66), (D 67), (D 68), (D 69), (D 70), (D 71), (D 72), (D 73), (D 74), (D 75), (D 76), (D 77), (D 78), (D 79), undef]).toArray, []⟩) (by kernel_rfl) ?_
          refine wp_block ?_
          obtain ⟨I_1, m_1, H0, HB⟩ := H
          refine wp_loop (fun a w => ∃ (D_1 : Nat → Value) (x7 : Value) (h_6 : Heap), a = ⟨([x0, undef, (D_1 0), x13, x4, x23, x42, x7, (D_1 1), x0, x10, x11, undef, x13, x13, x15, x4, x0, x18, x19, (D 9), (D 10), x13, x23, x13, x0, x4, x27, x28, x29, x0, x4, x32, x33, x34, x0, x4, x37, x38, x39, x40, x13, x42, (D_1 2), (D_1 3), (D_1 4), (D_1 5), (D_1 6), (D_1 7), (D_1 8)] ++ [(D_1 9), (D_1 10), (D_1 11), (D_1 12), (D_1 13), (D_1 14), (D_1 15), (D_1 16), (D_1 17), (D_1 18), (D_1 19), (D_1 20), (D_1 21), (D_1 22), (D_1 23), (D_1 24), (D_1 25), (D_1 26), (D_1 27), (D_1 28), (D_1 29), (D_1 30), (D_1 31), (D_1 32), (D_1 33), (D_1 34), (D_1 35), (D_1 36), (D_1 37), (D_1 38), (D_1 39), (D_1 40), (D_1 41), (D_1 42), (D_1 43), (D_1 44), (D_1 45), (D_1 46), (D 77), (D 78), (D 79), undef]).toArray, []⟩ ∧ At w0 w h_6 ∧ I_1 x7 h_6) (fun a w => m_1 (a.tmps.getD 7 undef) w.heap) ?_ ?_
          · exact ⟨(fun i => ([(D 0), (D 4), (D 32), (D 33), (D 34), (D 35), (D 36), (D 37), (D 38), (D 39), (D 40), (D 41), (D 42), (D 43), (D 44), (D 45), (D 46), (D 47), (D 48), (D 49), (D 50), (D 51), (D 52), (D 53), (D 54), (D 55), (D 56), (D 57), (D 58), (D 59), (D 60), (D 61), (D 62), (D 63), (D 64), (D 65), (D 66), (D 67), (D 68), (D 69), (D 70), (D 71), (D 72), (D 73), (D 74), (D 75), (D 76)]).getD i undef), (.int .i64 0), h_5, by kernel_rfl, HA_6, H0⟩
          · rintro _ w_7 ⟨D_1, x7, h_6, rfl, HA_7, HI⟩
            have H : betonylaw10_FrameOthers_l2 R (fun x4' h' => I x4' h' ∧ m x4' h' < m x4 h_2) x13 x4 x23 x42 (fun x7' h' => I_1 x7' h' ∧ m_1 x7' h' < m_1 x7 h_6) x7 h_6 := HB x7 h_6 HI
            clear HB H0 HI
            unfold betonylaw10_FrameOthers_l2 at H
            refine wp_seq ?_
            refine wp_seq ?_
            refine lwp_list ?_
            refine ls_move (x := x7) (by kernel_rfl) (by kernel_rfl) ?_
            refine ls_p (d := some 44) (by kernel_rfl) (by kernel_rfl) (p_sLt (by kernel_rfl) (by kernel_rfl) H) (fun x44 H => ?_)
            refine ls_nil ?_
            refine then_normal ?_
            refine fr_eq (b := ⟨([x0, undef, (D_1 0), x13, x4, x23, x42, x7, (D_1 1), x0, x10, x11, undef, x13, x13, x15, x4, x0, x18, x19, (D 9), (D 10), x13, x23, x13, x0, x4, x27, x28, x29, x0, x4, x32, x33, x34, x0, x4, x37, x38, x39, x40, x13, x42, x7, x44, (D_1 4), (D_1 5), (D_1 6), (D_1 7), (D_1 8)] ++ [(D_1 9), (D_1 10), (D_1 11), (D_1 12), (D_1 13), (D_1 14), (D_1 15), (D_1 16), (D_1 17), (D_1 18), (D_1 19), (D_1 20), (D_1 21), (D_1 22), (D_1 23), (D_1 24), (D_1 25), (D_1 26), (D_1 27), (D_1 28), (D_1 29), (D_1 30), (D_1 31), (D_1 32), (D_1 33), (D_1 34), (D_1 35), (D_1 36), (D_1 37), (D_1 38), (D_1 39), (D_1 40), (D_1 41), (D_1 42), (D_1 43), (D_1 44), (D_1 45), (D_1 46), (D 77), (D 78), (D 79), undef]).toArray, []⟩) (by kernel_rfl) ?_
            refine wp_if rfl H (fun H => ?_) (fun H => ?_)
            · refine wp_skip ?_
              refine then_normal ?_
              refine fr_eq (b := ⟨([x0, undef, (D_1 0), x13, x4, x23, x42, x7, (D_1 1), x0, x10, x11, undef, x13, x13, x15, x4, x0, x18, x19, (D 9), (D 10), x13, x23, x13, x0, x4, x27, x28, x29, x0, x4, x32, x33, x34, x0, x4, x37, x38, x39, x40, x13, x42, x7, x44, (D_1 4), (D_1 5), (D_1 6), (D_1 7), (D_1 8)] ++ [(D_1 9), (D_1 10), (D_1 11), (D_1 12), (D_1 13), (D_1 14), (D_1 15), (D_1 16), (D_1 17), (D_1 18), (D_1 19), (D_1 20), (D_1 21), (D_1 22), (D_1 23), (D_1 24), (D_1 25), (D_1 26), (D_1 27), (D_1 28), (D_1 29), (D_1 30), (D_1 31), (D_1 32), (D_1 33), (D_1 34), (D_1 35), (D_1 36), (D_1 37), (D_1 38), (D_1 39), (D_1 40), (D_1 41), (D_1 42), (D_1 43), (D_1 44), (D_1 45), (D_1 46), (D 77), (D 78), (D 79), undef]).toArray, []⟩) (by kernel_rfl) ?_
              refine wp_seq ?_
              refine wp_block ?_
              refine wp_seq ?_
              refine lwp_list ?_
              refine ls_move (x := x42) (by kernel_rfl) (by kernel_rfl) ?_
              refine ls_p (d := some 48) (by kernel_rfl) (by kernel_rfl) (p_len Try.underlying22 (by kernel_rfl) H) (fun x48 H => ?_)
              refine ls_p (d := some 49) (by kernel_rfl) (by kernel_rfl) (p_sEq (by kernel_rfl) (by kernel_rfl) H) (fun x49 H => ?_)
              refine ls_move (x := x49) (by kernel_rfl) (by kernel_rfl) ?_
              refine ls_and [(), (), (), (), (), (), (), ()] (fun K a w => ∃ (D_2 : Nat → Value) (x58 : Value), a = ⟨([x0, undef, (D_1 0), x13, x4, x23, x42, x7, (D_1 1), x0, x10, x11, undef, x13, x13, x15, x4, x0, x18, x19, (D 9), (D 10), x13, x23, x13, x0, x4, x27, x28, x29, x0, x4, x32, x33, x34, x0, x4, x37, x38, x39, x40, x13, x42, x7, x44, (D_1 4), (D_1 5), x42, x48, x49] ++ [x49, (D_2 0), (D_2 1), (D_2 2), (D_2 3), (D_2 4), (D_2 5), (D_2 6), x58, (D_1 18), (D_1 19), (D_1 20), (D_1 21), (D_1 22), (D_1 23), (D_1 24), (D_1 25), (D_1 26), (D_1 27), (D_1 28), (D_1 29), (D_1 30), (D_1 31), (D_1 32), (D_1 33), (D_1 34), (D_1 35), (D_1 36), (D_1 37), (D_1 38), (D_1 39), (D_1 40), (D_1 41), (D_1 42), (D_1 43), (D_1 44), (D_1 45), (D_1 46), (D 77), (D 78), (D 79), undef]).toArray, []⟩ ∧ At w0 w h_6 ∧ K x58) H (fun hb_2 H => ?_) (fun hb_2 H => ?_) ?_
              · refine ls_move (x := x42) (by rw [hb_2]; kernel_rfl) (by kernel_rfl) ?_
                refine ls_p (d := some 52) (by kernel_rfl) (by rw [hb_2]; kernel_rfl) (p_ixs Try.underlying22 Try.sizeOf34 (by kernel_rfl) (by kernel_rfl) H) (fun x52 H => ?_)
                refine ls_fr (b := ⟨([x0, undef, (D_1 0), x13, x4, x23, x42, x7, (D_1 1), x0, x10, x11, undef, x13, x13, x15, x4, x0, x18, x19, (D 9), (D 10), x13, x23, x13, x0, x4, x27, x28, x29, x0, x4, x32, x33, x34, x0, x4, x37, x38, x39, x40, x13, x42, x7, x44, (D_1 4), (D_1 5), x42, x48, x49] ++ [x49, x42, x52, (D_1 12), (D_1 13), (D_1 14), (D_1 15), (D_1 16), (D_1 17), (D_1 18), (D_1 19), (D_1 20), (D_1 21), (D_1 22), (D_1 23), (D_1 24), (D_1 25), (D_1 26), (D_1 27), (D_1 28), (D_1 29), (D_1 30), (D_1 31), (D_1 32), (D_1 33), (D_1 34), (D_1 35), (D_1 36), (D_1 37), (D_1 38), (D_1 39), (D_1 40), (D_1 41), (D_1 42), (D_1 43), (D_1 44), (D_1 45), (D_1 46), (D 77), (D 78), (D 79), undef]).toArray, []⟩) (by kernel_rfl) ?_
                refine ls_p (d := some 53) (by kernel_rfl) (by rw [hb_2]; kernel_rfl) (p_off Try.underlying34 rfl (fun w => ⟨_, Try.sizeOf3 w⟩) rfl (by kernel_rfl) H) (fun x53 H => ?_)
                refine ls_y (d := some 54) (by kernel_rfl) (by rw [hb_2]; kernel_rfl) HA_7 (y_ld Try.isAgg3 (by kernel_rfl) H) (fun x54 H => ?_)
                refine ls_move (x := x7) (by rw [hb_2]; kernel_rfl) (by kernel_rfl) ?_
                refine ls_p (d := some 56) (by kernel_rfl) (by rw [hb_2]; kernel_rfl) (p_rem (by kernel_rfl) (by kernel_rfl) H) (fun x56 H => ?_)
                refine ls_p (d := some 57) (by kernel_rfl) (by rw [hb_2]; kernel_rfl) (p_sEq (by kernel_rfl) (by kernel_rfl) H) (fun x57 H => ?_)
                refine ls_pick_t (x := x57) (by kernel_rfl) (by rw [hb_2]; kernel_rfl) (by kernel_rfl) ?_
                refine ls_nil ?_
                refine then_normal ?_
                exact ⟨(fun i => ([x42, x52, x53, x54, x7, x56, x57]).getD i undef), x57, by kernel_rfl, HA_7, H⟩
              · refine ls_skip (d := some 51) (by kernel_rfl) (by rw [hb_2]; kernel_rfl) ?_
                refine ls_skip (d := some 52) (by kernel_rfl) (by rw [hb_2]; kernel_rfl) ?_
                refine ls_fr (b := ⟨([x0, undef, (D_1 0), x13, x4, x23, x42, x7, (D_1 1), x0, x10, x11, undef, x13, x13, x15, x4, x0, x18, x19, (D 9), (D 10), x13, x23, x13, x0, x4, x27, x28, x29, x0, x4, x32, x33, x34, x0, x4, x37, x38, x39, x40, x13, x42, x7, x44, (D_1 4), (D_1 5), x42, x48, x49] ++ [x49, undef, undef, (D_1 12), (D_1 13), (D_1 14), (D_1 15), (D_1 16), (D_1 17), (D_1 18), (D_1 19), (D_1 20), (D_1 21), (D_1 22), (D_1 23), (D_1 24), (D_1 25), (D_1 26), (D_1 27), (D_1 28), (D_1 29), (D_1 30), (D_1 31), (D_1 32), (D_1 33), (D_1 34), (D_1 35), (D_1 36), (D_1 37), (D_1 38), (D_1 39), (D_1 40), (D_1 41), (D_1 42), (D_1 43), (D_1 44), (D_1 45), (D_1 46), (D 77), (D 78), (D 79), undef]).toArray, []⟩) (by kernel_rfl) ?_
                refine ls_skip (d := some 53) (by kernel_rfl) (by rw [hb_2]; kernel_rfl) ?_
                refine ls_skip (d := some 54) (by kernel_rfl) (by rw [hb_2]; kernel_rfl) ?_
                refine ls_skip (d := some 55) (by kernel_rfl) (by rw [hb_2]; kernel_rfl) ?_
                refine ls_skip (d := some 56) (by kernel_rfl) (by rw [hb_2]; kernel_rfl) ?_
                refine ls_skip (d := some 57) (by kernel_rfl) (by rw [hb_2]; kernel_rfl) ?_
                refine ls_pick_f (y := (.bool false)) (by kernel_rfl) (by rw [hb_2]; kernel_rfl) (by kernel_rfl) ?_
                refine ls_nil ?_
                refine then_normal ?_
                exact ⟨(fun i => ([undef, undef, undef, undef, undef, undef, undef]).getD i undef), (.bool false), by kernel_rfl, HA_7, H⟩
              · rintro _ w_8 ⟨D_2, x58, rfl, HA_8, H⟩
                refine ls_move (x := x58) (by kernel_rfl) (by kernel_rfl) ?_
                refine ls_and [(), (), (), (), (), (), (), ()] (fun K a w => ∃ (D_3 : Nat → Value) (x67 : Value), a = ⟨([x0, undef, (D_1 0), x13, x4, x23, x42, x7, (D_1 1), x0, x10, x11, undef, x13, x13, x15, x4, x0, x18, x19, (D 9), (D 10), x13, x23, x13, x0, x4, x27, x28, x29, x0, x4, x32, x33, x34, x0, x4, x37, x38, x39, x40, x13, x42, x7, x44, (D_1 4), (D_1 5), x42, x48, x49] ++ [x49, (D_2 0), (D_2 1), (D_2 2), (D_2 3), (D_2 4), (D_2 5), (D_2 6), x58, x58, (D_3 0), (D_3 1), (D_3 2), (D_3 3), (D_3 4), (D_3 5), (D_3 6), x67, (D_1 27), (D_1 28), (D_1 29), (D_1 30), (D_1 31), (D_1 32), (D_1 33), (D_1 34), (D_1 35), (D_1 36), (D_1 37), (D_1 38), (D_1 39), (D_1 40), (D_1 41), (D_1 42), (D_1 43), (D_1 44), (D_1 45), (D_1 46), (D 77), (D 78), (D 79), undef]).toArray, []⟩ ∧ At w0 w h_6 ∧ K x67) H (fun hb_1 H => ?_) (fun hb_1 H => ?_) ?_
                · refine ls_move (x := x42) (by rw [hb_1]; kernel_rfl) (by kernel_rfl) ?_
                  refine ls_p (d := some 61) (by kernel_rfl) (by rw [hb_1]; kernel_rfl) (p_ixs Try.underlying22 Try.sizeOf34 (by kernel_rfl) (by kernel_rfl) H) (fun x61 H => ?_)
                  refine ls_p (d := some 62) (by kernel_rfl) (by rw [hb_1]; kernel_rfl) (p_off Try.underlying34 rfl (fun w => ⟨_, Try.sizeOf3 w⟩) rfl (by kernel_rfl) H) (fun x62 H => ?_)
                  refine ls_y (d := some 63) (by kernel_rfl) (by rw [hb_1]; kernel_rfl) HA_8 (y_ld Try.isAgg3 (by kernel_rfl) H) (fun x63 H => ?_)
                  refine ls_move (x := x7) (by rw [hb_1]; kernel_rfl) (by kernel_rfl) ?_
                  refine ls_fr (b := ⟨([x0, undef, (D_1 0), x13, x4, x23, x42, x7, (D_1 1), x0, x10, x11, undef, x13, x13, x15, x4, x0, x18, x19, (D 9), (D 10), x13, x23, x13, x0, x4, x27, x28, x29, x0, x4, x32, x33, x34, x0, x4, x37, x38, x39, x40, x13, x42, x7, x44, (D_1 4), (D_1 5), x42, x48, x49] ++ [x49, (D_2 0), (D_2 1), (D_2 2), (D_2 3), (D_2 4), (D_2 5), (D_2 6), x58, x58, x42, x61, x62, x63, x7, (D_1 24), (D_1 25), (D_1 26), (D_1 27), (D_1 28), (D_1 29), (D_1 30), (D_1 31), (D_1 32), (D_1 33), (D_1 34), (D_1 35), (D_1 36), (D_1 37), (D_1 38), (D_1 39), (D_1 40), (D_1 41), (D_1 42), (D_1 43), (D_1 44), (D_1 45), (D_1 46), (D 77), (D 78), (D 79), undef]).toArray, []⟩) (by kernel_rfl) ?_
                  refine ls_p (d := some 65) (by kernel_rfl) (by rw [hb_1]; kernel_rfl) (p_quo (by kernel_rfl) (by kernel_rfl) H) (fun x65 H => ?_)
                  refine ls_p (d := some 66) (by kernel_rfl) (by rw [hb_1]; kernel_rfl) (p_sEq (by kernel_rfl) (by kernel_rfl) H) (fun x66 H => ?_)
                  refine ls_pick_t (x := x66) (by kernel_rfl) (by rw [hb_1]; kernel_rfl) (by kernel_rfl) ?_
                  refine ls_nil ?_
                  refine then_normal ?_
                  exact ⟨(fun i => ([x42, x61, x62, x63, x7, x65, x66]).getD i undef), x66, by kernel_rfl, HA_8, H⟩
                · refine ls_skip (d := some 60) (by kernel_rfl) (by rw [hb_1]; kernel_rfl) ?_
                  refine ls_skip (d := some 61) (by kernel_rfl) (by rw [hb_1]; kernel_rfl) ?_
                  refine ls_skip (d := some 62) (by kernel_rfl) (by rw [hb_1]; kernel_rfl) ?_
                  refine ls_skip (d := some 63) (by kernel_rfl) (by rw [hb_1]; kernel_rfl) ?_
                  refine ls_skip (d := some 64) (by kernel_rfl) (by rw [hb_1]; kernel_rfl) ?_
                  refine ls_fr (b := ⟨([x0, undef, (D_1 0), x13, x4, x23, x42, x7, (D_1 1), x0, x10, x11, undef, x13, x13, x15, x4, x0, x18, x19, (D 9), (D 10), x13, x23, x13, x0, x4, x27, x28, x29, x0, x4, x32, x33, x34, x0, x4, x37, x38, x39, x40, x13, x42, x7, x44, (D_1 4), (D_1 5), x42, x48, x49] ++ [x49, (D_2 0), (D_2 1), (D_2 2), (D_2 3), (D_2 4), (D_2 5), (D_2 6), x58, x58, undef, undef, undef, undef, undef, (D_1 24), (D_1 25), (D_1 26), (D_1 27), (D_1 28), (D_1 29), (D_1 30), (D_1 31), (D_1 32), (D_1 33), (D_1 34), (D_1 35), (D_1 36), (D_1 37), (D_1 38), (D_1 39), (D_1 40), (D_1 41), (D_1 42), (D_1 43), (D_1 44), (D_1 45), (D_1 46), (D 77), (D 78), (D 79), undef]).toArray, []⟩) (by kernel_rfl) ?_
                  refine ls_skip (d := some 65) (by kernel_rfl) (by rw [hb_1]; kernel_rfl) ?_
                  refine ls_skip (d := some 66) (by kernel_rfl) (by rw [hb_1]; kernel_rfl) ?_
                  refine ls_pick_f (y := (.bool false)) (by kernel_rfl) (by rw [hb_1]; kernel_rfl) (by kernel_rfl) ?_
                  refine ls_nil ?_
                  refine then_normal ?_
                  exact ⟨(fun i => ([undef, undef, undef, undef, undef, undef, undef]).getD i undef), (.bool false), by kernel_rfl, HA_8, H⟩
                · rintro _ w_9 ⟨D_3, x67, rfl, HA_9, H⟩
                  refine ls_assign (x := x67) (by kernel_rfl) (by kernel_rfl) ?_
                  refine ls_nil ?_
                  refine then_normal ?_
                  refine fr_eq (b := ⟨([x0, undef, (D_1 0), x13, x4, x23, x42, x7, x67, x0, x10, x11, undef, x13, x13, x15, x4, x0, x18, x19, (D 9), (D 10), x13, x23, x13, x0, x4, x27, x28, x29, x0, x4, x32, x33, x34, x0, x4, x37, x38, x39, x40, x13, x42, x7, x44, (D_1 4), (D_1 5), x42, x48, x49] ++ [x49, (D_2 0), (D_2 1), (D_2 2), (D_2 3), (D_2 4), (D_2 5), (D_2 6), x58, x58, (D_3 0), (D_3 1), (D_3 2), (D_3 3), (D_3 4), (D_3 5), (D_3 6), x67, (D_1 27), (D_1 28), (D_1 29), (D_1 30), (D_1 31), (D_1 32), (D_1 33), (D_1 34), (D_1 35), (D_1 36), (D_1 37), (D_1 38), (D_1 39), (D_1 40), (D_1 41), (D_1 42), (D_1 43), (D_1 44), (D_1 45), (D_1 46), (D 77), (D 78), (D 79), undef]).toArray, []⟩) (by kernel_rfl) ?_
                  refine wp_seq ?_
                  refine lwp_list ?_
                  refine ls_move (x := x67) (by kernel_rfl) (by kernel_rfl) ?_
                  refine ls_p (d := some 69) (by kernel_rfl) (by kernel_rfl) (p_not (by kernel_rfl) H) (fun x69 H => ?_)
                  refine ls_move (x := x69) (by kernel_rfl) (by kernel_rfl) ?_
                  refine ls_andh [(), (), (), (), (), (), (), (), (), (), (), (), (), (), (), (), ()] (fun K a w => ∃ (D_4 : Nat → Value) (x87 : Value) (h_7 : Heap), a = ⟨([x0, undef, (D_1 0), x13, x4, x23, x42, x7, x67, x0, x10, x11, undef, x13, x13, x15, x4, x0, x18, x19, (D 9), (D 10), x13, x23, x13, x0, x4, x27, x28, x29, x0, x4, x32, x33, x34, x0, x4, x37, x38, x39, x40, x13, x42, x7, x44, (D_1 4), (D_1 5), x42, x48, x49] ++ [x49, (D_2 0), (D_2 1), (D_2 2), (D_2 3), (D_2 4), (D_2 5), (D_2 6), x58, x58, (D_3 0), (D_3 1), (D_3 2), (D_3 3), (D_3 4), (D_3 5), (D_3 6), x67, x67, x69, x69, (D_4 0), (D_4 1), (D_4 2), (D_4 3), (D_4 4), (D_4 5), (D_4 6), (D_4 7), (D_4 8), (D_4 9), (D_4 10), (D_4 11), (D_4 12), (D_4 13), (D_4 14), (D_4 15), x87, (D 77), (D 78), (D 79), undef]).toArray, []⟩ ∧ At w0 w h_7 ∧ K x87 h_7) H (fun hb H => ?_) (fun hb H => ?_) ?_
                  · refine ls_move (x := x13) (by rw [hb]; kernel_rfl) (by kernel_rfl) ?_
                    refine ls_p (d := some 72) (by kernel_rfl) (by rw [hb]; kernel_rfl) (p_nil (by kernel_rfl) H) (fun x72 H => ?_)
                    refine ls_p (d := some 73) (by kernel_rfl) (by rw [hb]; kernel_rfl) (p_off Try.underlying38 rfl (fun w => ⟨_, Try.sizeOf26 w⟩) rfl (by kernel_rfl) H) (fun x73 H => ?_)
                    refine ls_fr (b := ⟨([x0, undef, (D_1 0), x13, x4, x23, x42, x7, x67, x0, x10, x11, undef, x13, x13, x15, x4, x0, x18, x19, (D 9), (D 10), x13, x23, x13, x0, x4, x27, x28, x29, x0, x4, x32, x33, x34, x0, x4, x37, x38, x39, x40, x13, x42, x7, x44, (D_1 4), (D_1 5), x42, x48, x49] ++ [x49, (D_2 0), (D_2 1), (D_2 2), (D_2 3), (D_2 4), (D_2 5), (D_2 6), x58, x58, (D_3 0), (D_3 1), (D_3 2), (D_3 3), (D_3 4), (D_3 5), (D_3 6), x67, x67, x69, x69, x13, x72, x73, (D_1 33), (D_1 34), (D_1 35), (D_1 36), (D_1 37), (D_1 38), (D_1 39), (D_1 40), (D_1 41), (D_1 42), (D_1 43), (D_1 44), (D_1 45), (D_1 46), (D 77), (D 78), (D 79), undef]).toArray, []⟩) (by kernel_rfl) ?_
                    refine ls_y (d := some 74) (by kernel_rfl) (by rw [hb]; kernel_rfl) HA_9 (y_ld Try.isAgg26 (by kernel_rfl) H) (fun x74 H => ?_)
                    refine ls_move (x := x7) (by rw [hb]; kernel_rfl) (by kernel_rfl) ?_
                    refine ls_p (d := some 76) (by kernel_rfl) (by rw [hb]; kernel_rfl) (p_rem (by kernel_rfl) (by kernel_rfl) H) (fun x76 H => ?_)
                    refine ls_move (x := x7) (by rw [hb]; kernel_rfl) (by kernel_rfl) ?_
                    refine ls_p (d := some 78) (by kernel_rfl) (by rw [hb]; kernel_rfl) (p_quo (by kernel_rfl) (by kernel_rfl) H) (fun x78 H => ?_)
                    refine ls_d (d := some 79) (by kernel_rfl) (by rw [hb]; kernel_rfl) HA_9 (d_call (by kernel_rfl) (by kernel_rfl) H) (fun x79 h_8 w_11 H HA_11 => ?_)
                    refine ls_fr (b := ⟨([x0, undef, (D_1 0), x13, x4, x23, x42, x7, x67, x0, x10, x11, undef, x13, x13, x15, x4, x0, x18, x19, (D 9), (D 10), x13, x23, x13, x0, x4, x27, x28, x29, x0, x4, x32, x33, x34, x0, x4, x37, x38, x39, x40, x13, x42, x7, x44, (D_1 4), (D_1 5), x42, x48, x49] ++ [x49, (D_2 0), (D_2 1), (D_2 2), (D_2 3), (D_2 4), (D_2 5), (D_2 6), x58, x58, (D_3 0), (D_3 1), (D_3 2), (D_3 3), (D_3 4), (D_3 5), (D_3 6), x67, x67, x69, x69, x13, x72, x73, x74, x7, x76, x7, x78, x79, (D_1 39), (D_1 40), (D_1 41), (D_1 42), (D_1 43), (D_1 44), (D_1 45), (D_1 46), (D 77), (D 78), (D 79), undef]).toArray, []⟩) (by kernel_rfl) ?_
                    refine ls_move (x := x23) (by rw [hb]; kernel_rfl) (by kernel_rfl) ?_
                    refine ls_move (x := x7) (by rw [hb]; kernel_rfl) (by kernel_rfl) ?_
                    refine ls_p (d := some 82) (by kernel_rfl) (by rw [hb]; kernel_rfl) (p_rem (by kernel_rfl) (by kernel_rfl) H) (fun x82 H => ?_)
                    refine ls_move (x := x7) (by rw [hb]; kernel_rfl) (by kernel_rfl) ?_
                    refine ls_p (d := some 84) (by kernel_rfl) (by rw [hb]; kernel_rfl) (p_quo (by kernel_rfl) (by kernel_rfl) H) (fun x84 H => ?_)
                    refine ls_d (d := some 85) (by kernel_rfl) (by rw [hb]; kernel_rfl) HA_11 (d_call (by kernel_rfl) (by kernel_rfl) H) (fun x85 h_9 w_12 H HA_12 => ?_)
                    refine ls_fr (b := ⟨([x0, undef, (D_1 0), x13, x4, x23, x42, x7, x67, x0, x10, x11, undef, x13, x13, x15, x4, x0, x18, x19, (D 9), (D 10), x13, x23, x13, x0, x4, x27, x28, x29, x0, x4, x32, x33, x34, x0, x4, x37, x38, x39, x40, x13, x42, x7, x44, (D_1 4), (D_1 5), x42, x48, x49] ++ [x49, (D_2 0), (D_2 1), (D_2 2), (D_2 3), (D_2 4), (D_2 5), (D_2 6), x58, x58, (D_3 0), (D_3 1), (D_3 2), (D_3 3), (D_3 4), (D_3 5), (D_3 6), x67, x67, x69, x69, x13, x72, x73, x74, x7, x76, x7, x78, x79, x23, x7, x82, x7, x84, x85, (D_1 45), (D_1 46), (D 77), (D 78), (D 79), undef]).toArray, []⟩) (by kernel_rfl) ?_
                    refine ls_p (d := some 86) (by kernel_rfl) (by rw [hb]; kernel_rfl) (p_neqAgg (eqT_32) (by kernel_rfl) (by kernel_rfl) H) (fun x86 H => ?_)
                    refine ls_pick_t (x := x86) (by kernel_rfl) (by rw [hb]; kernel_rfl) (by kernel_rfl) ?_
                    refine ls_nil ?_
                    refine then_normal ?_
                    exact ⟨(fun i => ([x13, x72, x73, x74, x7, x76, x7, x78, x79, x23, x7, x82, x7, x84, x85, x86]).getD i undef), x86, h_9, by kernel_rfl, HA_12, H⟩
                  · refine ls_skip (d := some 71) (by kernel_rfl) (by rw [hb]; kernel_rfl) ?_
                    refine ls_skip (d := some 72) (by kernel_rfl) (by rw [hb]; kernel_rfl) ?_
                    refine ls_skip (d := some 73) (by kernel_rfl) (by rw [hb]; kernel_rfl) ?_
                    refine ls_fr (b := ⟨([x0, undef, (D_1 0), x13, x4, x23, x42, x7, x67, x0, x10, x11, undef, x13, x13, x15, x4, x0, x18, x19, (D 9), (D 10), x13, x23, x13, x0, x4, x27, x28, x29, x0, x4, x32, x33, x34, x0, x4, x37, x38, x39, x40, x13, x42, x7, x44, (D_1 4), (D_1 5), x42, x48, x49] ++ [x49, (D_2 0), (D_2 1), (D_2 2), (D_2 3), (D_2 4), (D_2 5), (D_2 6), x58, x58, (D_3 0), (D_3 1), (D_3 2), (D_3 3), (D_3 4), (D_3 5), (D_3 6), x67, x67, x69, x69, undef, undef, undef, (D_1 33), (D_1 34), (D_1 35), (D_1 36), (D_1 37), (D_1 38), (D_1 39), (D_1 40), (D_1 41), (D_1 42), (D_1 43), (D_1 44), (D_1 45), (D_1 46), (D 77), (D 78), (D 79), undef]).toArray, []⟩) (by kernel_rfl) ?_
                    refine ls_skip (d := some 74) (by kernel_rfl) (by rw [hb]; kernel_rfl) ?_
                    refine ls_skip (d := some 75) (by kernel_rfl) (by rw [hb]; kernel_rfl) ?_
                    refine ls_skip (d := some 76) (by kernel_rfl) (by rw [hb]; kernel_rfl) ?_
                    refine ls_skip (d := some 77) (by kernel_rfl) (by rw [hb]; kernel_rfl) ?_
                    refine ls_skip (d := some 78) (by kernel_rfl) (by rw [hb]; kernel_rfl) ?_
                    refine ls_skip (d := some 79) (by kernel_rfl) (by rw [hb]; kernel_rfl) ?_
                    refine ls_fr (b := ⟨([x0, undef, (D_1 0), x13, x4, x23, x42, x7, x67, x0, x10, x11, undef, x13, x13, x15, x4, x0, x18, x19, (D 9), (D 10), x13, x23, x13, x0, x4, x27, x28, x29, x0, x4, x32, x33, x34, x0, x4, x37, x38, x39, x40, x13, x42, x7, x44, (D_1 4), (D_1 5), x42, x48, x49] ++ [x49, (D_2 0), (D_2 1), (D_2 2), (D_2 3), (D_2 4), (D_2 5), (D_2 6), x58, x58, (D_3 0), (D_3 1), (D_3 2), (D_3 3), (D_3 4), (D_3 5), (D_3 6), x67, x67, x69, x69, undef, undef, undef, undef, undef, undef, undef, undef, undef, (D_1 39), (D_1 40), (D_1 41), (D_1 42), (D_1 43), (D_1 44), (D_1 45), (D_1 46), (D 77), (D 78), (D 79), undef]).toArray, []⟩) (by kernel_rfl) ?_
                    refine ls_skip (d := some 80) (by kernel_rfl) (by rw [hb]; kernel_rfl) ?_
                    refine ls_skip (d := some 81) (by kernel_rfl) (by rw [hb]; kernel_rfl) ?_
                    refine ls_skip (d := some 82) (by kernel_rfl) (by rw [hb]; kernel_rfl) ?_
                    refine ls_skip (d := some 83) (by kernel_rfl) (by rw [hb]; kernel_rfl) ?_
                    refine ls_skip (d := some 84) (by kernel_rfl) (by rw [hb]; kernel_rfl) ?_
                    refine ls_skip (d := some 85) (by kernel_rfl) (by rw [hb]; kernel_rfl) ?_
                    refine ls_fr (b := ⟨([x0, undef, (D_1 0), x13, x4, x23, x42, x7, x67, x0, x10, x11, undef, x13, x13, x15, x4, x0, x18, x19, (D 9), (D 10), x13, x23, x13, x0, x4, x27, x28, x29, x0, x4, x32, x33, x34, x0, x4, x37, x38, x39, x40, x13, x42, x7, x44, (D_1 4), (D_1 5), x42, x48, x49] ++ [x49, (D_2 0), (D_2 1), (D_2 2), (D_2 3), (D_2 4), (D_2 5), (D_2 6), x58, x58, (D_3 0), (D_3 1), (D_3 2), (D_3 3), (D_3 4), (D_3 5), (D_3 6), x67, x67, x69, x69, undef, undef, undef, undef, undef, undef, undef, undef, undef, undef, undef, undef, undef, undef, undef, (D_1 45), (D_1 46), (D 77), (D 78), (D 79), undef]).toArray, []⟩) (by kernel_rfl) ?_
                    refine ls_skip (d := some 86) (by kernel_rfl) (by rw [hb]; kernel_rfl) ?_
                    refine ls_pick_f (y := (.bool false)) (by kernel_rfl) (by rw [hb]; kernel_rfl) (by kernel_rfl) ?_
                    refine ls_nil ?_
                    refine then_normal ?_
                    exact ⟨(fun i => ([undef, undef, undef, undef, undef, undef, undef, undef, undef, undef, undef, undef, undef, undef, undef, undef]).getD i undef), (.bool false), h_6, by kernel_rfl, HA_9, H⟩
                  · rintro _ w_10 ⟨D_4, x87, h_7, rfl, HA_10, H⟩
                    refine ls_nil ?_
                    refine then_normal ?_
                    refine fr_eq (b := ⟨([x0, undef, (D_1 0), x13, x4, x23, x42, x7, x67, x0, x10, x11, undef, x13, x13, x15, x4, x0, x18, x19, (D 9), (D 10), x13, x23, x13, x0, x4, x27, x28, x29, x0, x4, x32, x33, x34, x0, x4, x37, x38, x39, x40, x13, x42, x7, x44, (D_1 4), (D_1 5), x42, x48, x49] ++ [x49, (D_2 0), (D_2 1), (D_2 2), (D_2 3), (D_2 4), (D_2 5), (D_2 6), x58, x58, (D_3 0), (D_3 1), (D_3 2), (D_3 3), (D_3 4), (D_3 5), (D_3 6), x67, x67, x69, x69, (D_4 0), (D_4 1), (D_4 2), (D_4 3), (D_4 4), (D_4 5), (D_4 6), (D_4 7), (D_4 8), (D_4 9), (D_4 10), (D_4 11), (D_4 12), (D_4 13), (D_4 14), (D_4 15), x87, (D 77), (D 78), (D 79), undef]).toArray, []⟩) (by kernel_rfl) ?_
                    refine wp_if rfl H (fun H => ?_) (fun H => ?_)
                    · refine wp_seq ?_
                      refine lwp_list ?_
                      refine ls_assign (x := (.bool false)) (by kernel_rfl) (by kernel_rfl) ?_
                      refine ls_nil ?_
                      refine then_normal ?_
                      refine fr_eq (b := ⟨([x0, undef, (.bool false), x13, x4, x23, x42, x7, x67, x0, x10, x11, undef, x13, x13, x15, x4, x0, x18, x19, (D 9), (D 10), x13, x23, x13, x0, x4, x27, x28, x29, x0, x4, x32, x33, x34, x0, x4, x37, x38, x39, x40, x13, x42, x7, x44, (D_1 4), (D_1 5), x42, x48, x49] ++ [x49, (D_2 0), (D_2 1), (D_2 2), (D_2 3), (D_2 4), (D_2 5), (D_2 6), x58, x58, (D_3 0), (D_3 1), (D_3 2), (D_3 3), (D_3 4), (D_3 5), (D_3 6), x67, x67, x69, x69, (D_4 0), (D_4 1), (D_4 2), (D_4 3), (D_4 4), (D_4 5), (D_4 6), (D_4 7), (D_4 8), (D_4 9), (D_4 10), (D_4 11), (D_4 12), (D_4 13), (D_4 14), (D_4 15), x87, (D 77), (D 78), (D 79), undef]).toArray, []⟩) (by kernel_rfl) ?_
                      refine wp_ret ?_
                      refine block_ret ?_
                      refine then_ret ?_
                      refine then_ret ?_
                      refine block_ret ?_
                      refine then_ret ?_
                      refine block_ret ?_
                      refine then_ret ?_
                      refine then_ret ?_
                      refine block_ret ?_
                      refine then_ret ?_
                      exact end1 (Try.results3) (by kernel_rfl) (by kernel_rfl) HA_10 H _ (.inr rfl)
                    · refine wp_skip ?_
                      refine block_normal ?_
                      refine then_normal ?_
                      refine fr_eq (b := ⟨([x0, undef, (D_1 0), x13, x4, x23, x42, x7, x67, x0, x10, x11, undef, x13, x13, x15, x4, x0, x18, x19, (D 9), (D 10), x13, x23, x13, x0, x4, x27, x28, x29, x0, x4, x32, x33, x34, x0, x4, x37, x38, x39, x40, x13, x42, x7, x44, (D_1 4), (D_1 5), x42, x48, x49] ++ [x49, (D_2 0), (D_2 1), (D_2 2), (D_2 3), (D_2 4), (D_2 5), (D_2 6), x58, x58, (D_3 0), (D_3 1), (D_3 2), (D_3 3), (D_3 4), (D_3 5), (D_3 6), x67, x67, x69, x69, (D_4 0), (D_4 1), (D_4 2), (D_4 3), (D_4 4), (D_4 5), (D_4 6), (D_4 7), (D_4 8), (D_4 9), (D_4 10), (D_4 11), (D_4 12), (D_4 13), (D_4 14), (D_4 15), x87, (D 77), (D 78), (D 79), undef]).toArray, []⟩) (by kernel_rfl) ?_
                      refine lwp_list ?_
                      refine ls_move (x := x7) (by kernel_rfl) (by kernel_rfl) ?_
                      refine ls_p (d := some 46) (by kernel_rfl) (by kernel_rfl) (p_add (by kernel_rfl) (by kernel_rfl) H) (fun x46 H => ?_)
                      refine ls_assign (x := x46) (by kernel_rfl) (by kernel_rfl) ?_
                      refine ls_nil ?_
                      exact ⟨⟨(fun i => ([(D_1 0), x67, x7, x44, x7, x46, x42, x48, x49, x49, (D_2 0), (D_2 1), (D_2 2), (D_2 3), (D_2 4), (D_2 5), (D_2 6), x58, x58, (D_3 0), (D_3 1), (D_3 2), (D_3 3), (D_3 4), (D_3 5), (D_3 6), x67, x67, x69, x69, (D_4 0), (D_4 1), (D_4 2), (D_4 3), (D_4 4), (D_4 5), (D_4 6), (D_4 7), (D_4 8), (D_4 9), (D_4 10), (D_4 11), (D_4 12), (D_4 13), (D_4 14), (D_4 15), x87]).getD i undef), x46, h_7, by kernel_rfl, HA_10, H.1⟩, loop_lt HA_10.heap HA_7.heap (by kernel_rfl) (by kernel_rfl) H.2⟩
            · refine wp_exit ?_
              refine then_exit ?_
              refine then_exit ?_
              refine block_exit ?_
              refine then_normal ?_
              refine fr_eq (b := ⟨([x0, undef, (D_1 0), x13, x4, x23, x42, x7, (D_1 1), x0, x10, x11, undef, x13, x13, x15, x4, x0, x18, x19, (D 9), (D 10), x13, x23, x13, x0, x4, x27, x28, x29, x0, x4, x32, x33, x34, x0, x4, x37, x38, x39, x40, x13, x42, x7, x44, (D_1 4), (D_1 5), (D_1 6), (D_1 7), (D_1 8)] ++ [(D_1 9), (D_1 10), (D_1 11), (D_1 12), (D_1 13), (D_1 14), (D_1 15), (D_1 16), (D_1 17), (D_1 18), (D_1 19), (D_1 20), (D_1 21), (D_1 22), (D_1 23), (D_1 24), (D_1 25), (D_1 26), (D_1 27), (D_1 28), (D_1 29), (D_1 30), (D_1 31), (D_1 32), (D_1 33), (D_1 34), (D_1 35), (D_1 36), (D_1 37), (D_1 38), (D_1 39), (D_1 40), (D_1 41), (D_1 42), (D_1 43), (D_1 44), (D_1 45), (D_1 46), (D 77), (D 78), (D 79), undef]).toArray, []⟩) (by kernel_rfl) ?_
              refine wp_seq ?_
              refine lwp_list ?_
              refine ls_move (x := x42) (by kernel_rfl) (by kernel_rfl) ?_
              refine ls_p (d := some 89) (by kernel_rfl) (by kernel_rfl) (p_len Try.underlying22 (by kernel_rfl) H) (fun x89 H => ?_)
              refine ls_p (d := some 90) (by kernel_rfl) (by kernel_rfl) (p_sGt (by kernel_rfl) (by kernel_rfl) H) (fun x90 H => ?_)
              refine ls_nil ?_
              refine then_normal ?_
              refine fr_eq (b := ⟨([x0, undef, (D_1 0), x13, x4, x23, x42, x7, (D_1 1), x0, x10, x11, undef, x13, x13, x15, x4, x0, x18, x19, (D 9), (D 10), x13, x23, x13, x0, x4, x27, x28, x29, x0, x4, x32, x33, x34, x0, x4, x37, x38, x39, x40, x13, x42, x7, x44, (D_1 4), (D_1 5), (D_1 6), (D_1 7), (D_1 8)] ++ [(D_1 9), (D_1 10), (D_1 11), (D_1 12), (D_1 13), (D_1 14), (D_1 15), (D_1 16), (D_1 17), (D_1 18), (D_1 19), (D_1 20), (D_1 21), (D_1 22), (D_1 23), (D_1 24), (D_1 25), (D_1 26), (D_1 27), (D_1 28), (D_1 29), (D_1 30), (D_1 31), (D_1 32), (D_1 33), (D_1 34), (D_1 35), (D_1 36), (D_1 37), (D_1 38), (D_1 39), (D_1 40), (D_1 41), (D_1 42), (D_1 43), (D_1 44), (D_1 45), (D_1 46), x42, x89, x90, undef]).toArray, []⟩) (by kernel_rfl) ?_
              refine wp_if rfl H (fun H => ?_) (fun H => ?_)
              · refine wp_seq ?_
                refine lwp_list ?_
                refine ls_assign (x := (.bool false)) (by kernel_rfl) (by kernel_rfl) ?_
                refine ls_nil ?_
                refine then_normal ?_
                refine fr_eq (b := ⟨([x0, undef, (.bool false), x13, x4, x23, x42, x7, (D_1 1), x0, x10, x11, undef, x13, x13, x15, x4, x0, x18, x19, (D 9), (D 10), x13, x23, x13, x0, x4, x27, x28, x29, x0, x4, x32, x33, x34, x0, x4, x37, x38, x39, x40, x13, x42, x7, x44, (D_1 4), (D_1 5), (D_1 6), (D_1 7), (D_1 8)] ++ [(D_1 9), (D_1 10), (D_1 11), (D_1 12), (D_1 13), (D_1 14), (D_1 15), (D_1 16), (D_1 17), (D_1 18), (D_1 19), (D_1 20), (D_1 21), (D_1 22), (D_1 23), (D_1 24), (D_1 25), (D_1 26), (D_1 27), (D_1 28), (D_1 29), (D_1 30), (D_1 31), (D_1 32), (D_1 33), (D_1 34), (D_1 35), (D_1 36), (D_1 37), (D_1 38), (D_1 39), (D_1 40), (D_1 41), (D_1 42), (D_1 43), (D_1 44), (D_1 45), (D_1 46), x42, x89, x90, undef]).toArray, []⟩) (by kernel_rfl) ?_
                refine wp_ret ?_
                refine block_ret ?_
                refine then_ret ?_
                refine then_ret ?_
                refine block_ret ?_
                refine then_ret ?_
                exact end1 (Try.results3) (by kernel_rfl) (by kernel_rfl) HA_7 H _ (.inr rfl)
              · refine wp_skip ?_
                refine block_normal ?_
                refine then_normal ?_
                refine fr_eq (b := ⟨([x0, undef, (D_1 0), x13, x4, x23, x42, x7, (D_1 1), x0, x10, x11, undef, x13, x13, x15, x4, x0, x18, x19, (D 9), (D 10), x13, x23, x13, x0, x4, x27, x28, x29, x0, x4, x32, x33, x34, x0, x4, x37, x38, x39, x40, x13, x42, x7, x44, (D_1 4), (D_1 5), (D_1 6), (D_1 7), (D_1 8)] ++ [(D_1 9), (D_1 10), (D_1 11), (D_1 12), (D_1 13), (D_1 14), (D_1 15), (D_1 16), (D_1 17), (D_1 18), (D_1 19), (D_1 20), (D_1 21), (D_1 22), (D_1 23), (D_1 24), (D_1 25), (D_1 26), (D_1 27), (D_1 28), (D_1 29), (D_1 30), (D_1 31), (D_1 32), (D_1 33), (D_1 34), (D_1 35), (D_1 36), (D_1 37), (D_1 38), (D_1 39), (D_1 40), (D_1 41), (D_1 42), (D_1 43), (D_1 44), (D_1 45), (D_1 46), x42, x89, x90, undef]).toArray, []⟩) (by kernel_rfl) ?_
                refine lwp_list ?_
                refine ls_move (x := x4) (by kernel_rfl) (by kernel_rfl) ?_
                refine ls_p (d := some 21) (by kernel_rfl) (by kernel_rfl) (p_add (by kernel_rfl) (by kernel_rfl) H) (fun x21 H => ?_)
                refine ls_assign (x := x21) (by kernel_rfl) (by kernel_rfl) ?_
                refine ls_nil ?_
                exact ⟨⟨(fun i => ([(D_1 0), x23, x42, x7, (D_1 1), x4, x0, x18, x19, x4, x21, x13, x23, x13, x0, x4, x27, x28, x29, x0, x4, x32, x33, x34, x0, x4, x37, x38, x39, x40, x13, x42, x7, x44, (D_1 4), (D_1 5), (D_1 6), (D_1 7), (D_1 8), (D_1 9), (D_1 10), (D_1 11), (D_1 12), (D_1 13), (D_1 14), (D_1 15), (D_1 16), (D_1 17), (D_1 18), (D_1 19)] ++ [(D_1 20), (D_1 21), (D_1 22), (D_1 23), (D_1 24), (D_1 25), (D_1 26), (D_1 27), (D_1 28), (D_1 29), (D_1 30), (D_1 31), (D_1 32), (D_1 33), (D_1 34), (D_1 35), (D_1 36), (D_1 37), (D_1 38), (D_1 39), (D_1 40), (D_1 41), (D_1 42), (D_1 43), (D_1 44), (D_1 45), (D_1 46), x42, x89, x90]).getD i undef), x21, h_6, by kernel_rfl, HA_7, H.1⟩, loop_lt HA_7.heap HA_2.heap (by kernel_rfl) (by kernel_rfl) H.2⟩
        · refine wp_exit ?_
          refine then_exit ?_
          refine then_exit ?_
          refine block_exit ?_
          refine then_normal ?_
          refine fr_eq (b := ⟨([x0, undef, (D 0), x13, x4, (D 1), (D 2), (D 3), (D 4), x0, x10, x11, undef, x13, x13, x15, x4, x0, x18, x19, (D 9), (D 10), (D 11), (D 12), (D 13), (D 14), (D 15), (D 16), (D 17), (D 18), (D 19), (D 20), (D 21), (D 22), (D 23), (D 24), (D 25), (D 26), (D 27), (D 28), (D 29), (D 30), (D 31), (D 32), (D 33), (D 34), (D 35), (D 36), (D 37), (D 38)] ++ [(D 39), (D 40), (D 41), (D 42), (D 43), (D 44), (D 45), (D 46), (D 47), (D 48), (D 49), (D 50), (D 51), (D 52), (D 53), (D 54), (D 55), (D 56), (D 57), (D 58), (D 59), (D 60), (D 61), (D 62), (D 63), (D 64), (D 65), (D 66), (D 67), (D 68), (D 69), (D 70), (D 71), (D 72), (D 73), (D 74), (D 75), (D 76), (D 77), (D 78), (D 79), undef]).toArray, []⟩) (by kernel_rfl) ?_
          refine wp_seq ?_
          refine lwp_list ?_
          refine ls_d (d := some 91) (by kernel_rfl) (by kernel_rfl) HA_2 (d_call (by kernel_rfl) (by kernel_rfl) H) (fun x91 h_10 w_13 H HA_13 => ?_)
          refine ls_assign (x := x91) (by kernel_rfl) (by kernel_rfl) ?_
          refine ls_nil ?_
          refine then_normal ?_
          refine fr_eq (b := ⟨([x0, undef, x91, x13, x4, (D 1), (D 2), (D 3), (D 4), x0, x10, x11, undef, x13, x13, x15, x4, x0, x18, x19, (D 9), (D 10), (D 11), (D 12), (D 13), (D 14), (D 15), (D 16), (D 17), (D 18), (D 19), (D 20), (D 21), (D 22), (D 23), (D 24), (D 25), (D 26), (D 27), (D 28), (D 29), (D 30), (D 31), (D 32), (D 33), (D 34), (D 35), (D 36), (D 37), (D 38)] ++ [(D 39), (D 40), (D 41), (D 42), (D 43), (D 44), (D 45), (D 46), (D 47), (D 48), (D 49), (D 50), (D 51), (D 52), (D 53), (D 54), (D 55), (D 56), (D 57), (D 58), (D 59), (D 60), (D 61), (D 62), (D 63), (D 64), (D 65), (D 66), (D 67), (D 68), (D 69), (D 70), (D 71), (D 72), (D 73), (D 74), (D 75), (D 76), (D 77), (D 78), (D 79), x91]).toArray, []⟩) (by kernel_rfl) ?_
          refine wp_ret ?_
          exact end1 (Try.results3) (by kernel_rfl) (by kernel_rfl) HA_13 H _ (.inr rfl)

end Go.Proofs.Ytbgipcikkedloaa
