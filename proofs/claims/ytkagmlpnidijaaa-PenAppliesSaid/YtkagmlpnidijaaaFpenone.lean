/- The shallow reading of one function, and that the function does it. Written by a program. -/
import Derived.Test.YtkagmlpnidijaaaFnC
set_option linter.unusedVariables false
namespace Go.Proofs.Ytkagmlpnidijaaa
open Go Go.HW

def pen_one_j1 (R : Value → Heap → Prop) (x2 x4 : Value) (h_2 : Heap) : Prop :=
  sLdN h_2 x2 3 fun x93 =>
  sStN h_2 x4 x93 3 fun h_3 => 
  sLdN h_3 x4 3 fun r4 =>
  R r4 h_3
def pen_one_j2 (R : Value → Heap → Prop) (x2 x4 x1_1 x5 : Value) (h_4 : Heap) : Prop :=
  sAdd .i64 (.int .i64 1) x5 fun x87 =>
  sAdd .i64 x87 x1_1 fun x89 =>
  sSub .i64 x89 (.int .i64 40) fun x90 =>
  sOff x2 1 fun x91 =>
  sSt h_4 x91 x90 fun h_5 => 
  pen_one_j1 R x2 x4 h_5
def pen_one_j3 (R : Value → Heap → Prop) (x2 x4 x1_2 x5_1 : Value) (h_6 : Heap) : Prop :=
  sAdd .i64 (.int .i64 1) x5_1 fun x78 =>
  sAdd .i64 x78 x1_2 fun x80 =>
  sSub .i64 x80 (.int .i64 30) fun x81 =>
  sOff x2 0 fun x82 =>
  sSt h_6 x82 x81 fun h_7 => 
  pen_one_j1 R x2 x4 h_7
def pen_one_S (x0 x1 : Value) (h : Heap) (R : Value → Heap → Prop) : Prop :=
  sBox h x0 23 fun x2 h => 
  sNew h #[.int .i64 0, .int .i64 0, .int .i64 0] 23 fun x4 h_1 => 
  sEq x1 (.int .i64 0) fun x8 =>
  sIf x8 (sBuild #[.int .i64 0, .int .i64 0, .int .i64 0] [] fun x57 =>
  sStN h_1 x4 x57 3 fun h_8 => 
  sLdN h_8 x4 3 fun r4_1 =>
  R r4_1 h_8) (pen_flag_c x1 h_1 fun x11 h_9 => 
  sNe x11 (.int .i64 0) fun x12 =>
  sIf x12 (∃ C : Heap → Prop, C h_9 ∧ (sOff x2 2 fun x58 =>
  sLdC C x58 fun x59 =>
  pen_flag_c x1 h_9 fun x61 h_10 => C h_10 ∧ (
  sBits .or .i64 x59 x61 fun x62 =>
  sOff x2 2 fun x63 =>
  sSt h_10 x63 x62 fun h_11 => 
  pen_one_j1 R x2 x4 h_11))) (sEq x1 (.int .i64 22) fun x15 =>
  sIf x15 (sOff x2 2 fun x64 =>
  sLd h_9 x64 fun x65 =>
  sBits .andNot .i64 x65 (.int .i64 3) fun x66 =>
  sOff x2 2 fun x67 =>
  sSt h_9 x67 x66 fun h_12 => 
  pen_one_j1 R x2 x4 h_12) (sGe x1 (.int .i64 23) fun x18 =>
  sAnd x18 (fun k_4 =>
  sLe x1 (.int .i64 29) fun x21 =>
  k_4 x21) fun x22 =>
  sIf x22 (∃ C_1 : Heap → Prop, C_1 h_9 ∧ (sOff x2 2 fun x68 =>
  sLdC C_1 x68 fun x69 =>
  sSub .i64 x1 (.int .i64 20) fun x71 =>
  pen_flag_c x71 h_9 fun x72 h_13 => C_1 h_13 ∧ (
  sBits .andNot .i64 x69 x72 fun x73 =>
  sOff x2 2 fun x74 =>
  sSt h_13 x74 x73 fun h_14 => 
  pen_one_j1 R x2 x4 h_14))) (sGe x1 (.int .i64 90) fun x25 =>
  sAnd x25 (fun k_3 =>
  sLe x1 (.int .i64 97) fun x28 =>
  k_3 x28) fun x29 =>
  sIf x29 (sSub .i64 x1 (.int .i64 60) fun x76 =>
  pen_one_j3 R x2 x4 x76 (.int .i64 8) h_9) (sGe x1 (.int .i64 30) fun x32 =>
  sAnd x32 (fun k_2 =>
  sLe x1 (.int .i64 37) fun x35 =>
  k_2 x35) fun x36 =>
  sIf x36 (pen_one_j3 R x2 x4 x1 (.int .i64 0) h_9) (sEq x1 (.int .i64 39) fun x39 =>
  sIf x39 (sOff x2 0 fun x83 =>
  sSt h_9 x83 (.int .i64 0) fun h_15 => 
  pen_one_j1 R x2 x4 h_15) (sGe x1 (.int .i64 100) fun x42 =>
  sAnd x42 (fun k_1 =>
  sLe x1 (.int .i64 107) fun x45 =>
  k_1 x45) fun x46 =>
  sIf x46 (sSub .i64 x1 (.int .i64 60) fun x85 =>
  pen_one_j2 R x2 x4 x85 (.int .i64 8) h_9) (sGe x1 (.int .i64 40) fun x49 =>
  sAnd x49 (fun k =>
  sLe x1 (.int .i64 47) fun x52 =>
  k x52) fun x53 =>
  sIf x53 (pen_one_j2 R x2 x4 x1 (.int .i64 0) h_9) (sEq x1 (.int .i64 49) fun x56 =>
  sIf x56 (sOff x2 1 fun x92 =>
  sSt h_9 x92 (.int .i64 0) fun h_16 => 
  pen_one_j1 R x2 x4 h_16) (pen_one_j1 R x2 x4 h_9))))))))))
set_option maxRecDepth 100000 in
theorem pen_one_runs {x0 x1 : Value} {h : Heap} {R : Value → Heap → Prop} (H : pen_one_S x0 x1 h R) : pen_one_c x0 x1 h R := by
  unfold pen_one_S at H
  refine runs_of (b := ⟨([x0, x1, undef, undef, undef, undef, undef, undef, undef, undef, undef, undef, undef, undef, undef, undef, undef, undef, undef, undef, undef, undef, undef, undef, undef, undef, undef, undef, undef, undef, undef, undef, undef, undef, undef, undef, undef, undef, undef, undef, undef, undef, undef, undef, undef, undef, undef, undef, undef, undef] ++ [undef, undef, undef, undef, undef, undef, undef, undef, undef, undef, undef, undef, undef, undef, undef, undef, undef, undef, undef, undef, undef, undef, undef, undef, undef, undef, undef, undef, undef, undef, undef, undef, undef, undef, undef, undef, undef, undef, undef, undef, undef, undef, undef, undef]).toArray, []⟩) Try.call50 Try.func50 rfl (by kernel_rfl) (fun w0 HA => ?_)
  refine wp_seq ?_
  refine lwp_list ?_
  refine ls_d (d := some 2) (by kernel_rfl) (by kernel_rfl) HA (d_box (by kernel_rfl) H) (fun x2 h w H HA => ?_)
  refine ls_d (d := some 4) (by kernel_rfl) (by kernel_rfl) HA (d_alloc Try.zeroValue23 H) (fun x4 h_1 w_1 H HA_1 => ?_)
  refine ls_nil ?_
  refine then_normal ?_
  refine fr_eq (b := ⟨([x0, x1, x2, undef, x4, undef, undef, undef, undef, undef, undef, undef, undef, undef, undef, undef, undef, undef, undef, undef, undef, undef, undef, undef, undef, undef, undef, undef, undef, undef, undef, undef, undef, undef, undef, undef, undef, undef, undef, undef, undef, undef, undef, undef, undef, undef, undef, undef, undef, undef] ++ [undef, undef, undef, undef, undef, undef, undef, undef, undef, undef, undef, undef, undef, undef, undef, undef, undef, undef, undef, undef, undef, undef, undef, undef, undef, undef, undef, undef, undef, undef, undef, undef, undef, undef, undef, undef, undef, undef, undef, undef, undef, undef, undef, undef]).toArray, []⟩) (by kernel_rfl) ?_
  refine wp_seq ?_
  refine lwp_list ?_
  refine ls_assign (x := (.int .i64 0)) (by kernel_rfl) (by kernel_rfl) ?_
  refine ls_nil ?_
  refine then_normal ?_
  refine fr_eq (b := ⟨([x0, x1, x2, undef, x4, (.int .i64 0), undef, undef, undef, undef, undef, undef, undef, undef, undef, undef, undef, undef, undef, undef, undef, undef, undef, undef, undef, undef, undef, undef, undef, undef, undef, undef, undef, undef, undef, undef, undef, undef, undef, undef, undef, undef, undef, undef, undef, undef, undef, undef, undef, undef] ++ [undef, undef, undef, undef, undef, undef, undef, undef, undef, undef, undef, undef, undef, undef, undef, undef, undef, undef, undef, undef, undef, undef, undef, undef, undef, undef, undef, undef, undef, undef, undef, undef, undef, undef, undef, undef, undef, undef, undef, undef, undef, undef, undef, undef]).toArray, []⟩) (by kernel_rfl) ?_
  refine wp_seq ?_
  refine wp_join (fun a w => ∃ (D : Nat → Value) (h_2 : Heap), a = ⟨([x0, (D 0), x2, undef, x4, (D 1), (D 2), (D 3), (D 4), (D 5), (D 6), (D 7), (D 8), (D 9), (D 10), (D 11), (D 12), (D 13), (D 14), (D 15), (D 16), (D 17), (D 18), (D 19), (D 20), (D 21), (D 22), (D 23), (D 24), (D 25), (D 26), (D 27), (D 28), (D 29), (D 30), (D 31), (D 32), (D 33), (D 34), (D 35), (D 36), (D 37), (D 38), (D 39), (D 40), (D 41), (D 42), (D 43), (D 44), (D 45)] ++ [(D 46), (D 47), (D 48), (D 49), (D 50), (D 51), (D 52), (D 53), (D 54), (D 55), (D 56), (D 57), (D 58), (D 59), (D 60), (D 61), (D 62), (D 63), (D 64), (D 65), (D 66), (D 67), (D 68), (D 69), (D 70), (D 71), (D 72), (D 73), (D 74), (D 75), (D 76), (D 77), (D 78), (D 79), (D 80), (D 81), (D 82), (D 83), (D 84), (D 85), (D 86), (D 87), (D 88), undef]).toArray, []⟩ ∧ At w0 w h_2 ∧ pen_one_j1 R x2 x4 h_2) ?_ ?_
  · refine wp_block ?_
    refine wp_seq ?_
    refine wp_block ?_
    refine wp_seq ?_
    refine wp_join (fun a w => ∃ (D_1 : Nat → Value) (x1_1 x5 : Value) (h_4 : Heap), a = ⟨([x0, x1_1, x2, undef, x4, x5, (D_1 0), (D_1 1), (D_1 2), (D_1 3), (D_1 4), (D_1 5), (D_1 6), (D_1 7), (D_1 8), (D_1 9), (D_1 10), (D_1 11), (D_1 12), (D_1 13), (D_1 14), (D_1 15), (D_1 16), (D_1 17), (D_1 18), (D_1 19), (D_1 20), (D_1 21), (D_1 22), (D_1 23), (D_1 24), (D_1 25), (D_1 26), (D_1 27), (D_1 28), (D_1 29), (D_1 30), (D_1 31), (D_1 32), (D_1 33), (D_1 34), (D_1 35), (D_1 36), (D_1 37), (D_1 38), (D_1 39), (D_1 40), (D_1 41), (D_1 42), (D_1 43)] ++ [(D_1 44), (D_1 45), (D_1 46), (D_1 47), (D_1 48), (D_1 49), (D_1 50), (D_1 51), (D_1 52), (D_1 53), (D_1 54), (D_1 55), (D_1 56), (D_1 57), (D_1 58), (D_1 59), (D_1 60), (D_1 61), (D_1 62), (D_1 63), (D_1 64), (D_1 65), (D_1 66), (D_1 67), (D_1 68), (D_1 69), (D_1 70), (D_1 71), (D_1 72), (D_1 73), (D_1 74), (D_1 75), (D_1 76), (D_1 77), (D_1 78), (D_1 79), undef, undef, undef, undef, undef, undef, undef, undef]).toArray, []⟩ ∧ At w0 w h_4 ∧ pen_one_j2 R x2 x4 x1_1 x5 h_4) ?_ ?_
    · refine wp_block ?_
      refine wp_seq ?_
      refine wp_block ?_
      refine wp_seq ?_
      refine wp_block ?_
      refine wp_seq ?_
      refine wp_join (fun a w => ∃ (D_2 : Nat → Value) (x1_2 x5_1 : Value) (h_6 : Heap), a = ⟨([x0, x1_2, x2, undef, x4, x5_1, (D_2 0), (D_2 1), (D_2 2), (D_2 3), (D_2 4), (D_2 5), (D_2 6), (D_2 7), (D_2 8), (D_2 9), (D_2 10), (D_2 11), (D_2 12), (D_2 13), (D_2 14), (D_2 15), (D_2 16), (D_2 17), (D_2 18), (D_2 19), (D_2 20), (D_2 21), (D_2 22), (D_2 23), (D_2 24), (D_2 25), (D_2 26), (D_2 27), (D_2 28), (D_2 29), (D_2 30), (D_2 31), (D_2 32), (D_2 33), (D_2 34), (D_2 35), (D_2 36), (D_2 37), (D_2 38), (D_2 39), (D_2 40), (D_2 41), (D_2 42), (D_2 43)] ++ [(D_2 44), (D_2 45), (D_2 46), (D_2 47), (D_2 48), (D_2 49), (D_2 50), (D_2 51), (D_2 52), (D_2 53), (D_2 54), (D_2 55), (D_2 56), (D_2 57), (D_2 58), (D_2 59), (D_2 60), (D_2 61), (D_2 62), (D_2 63), (D_2 64), (D_2 65), (D_2 66), (D_2 67), (D_2 68), (D_2 69), (D_2 70), undef, undef, undef, undef, undef, undef, undef, undef, undef, undef, undef, undef, undef, undef, undef, undef, undef]).toArray, []⟩ ∧ At w0 w h_6 ∧ pen_one_j3 R x2 x4 x1_2 x5_1 h_6) ?_ ?_
      · refine wp_block ?_
        refine wp_seq ?_
        refine wp_block ?_
        refine wp_seq ?_
        refine wp_block ?_
        refine wp_seq ?_
        refine wp_block ?_
        refine wp_seq ?_
        refine wp_block ?_
        refine wp_seq ?_
        refine wp_block ?_
        refine wp_seq ?_
        refine wp_seq ?_
        refine wp_seq ?_
        refine lwp_list ?_
        refine ls_move (x := x1) (by kernel_rfl) (by kernel_rfl) ?_
        refine ls_p (d := some 8) (by kernel_rfl) (by kernel_rfl) (p_sEq (by kernel_rfl) (by kernel_rfl) H) (fun x8 H => ?_)
        refine ls_assign (x := x8) (by kernel_rfl) (by kernel_rfl) ?_
        refine ls_nil ?_
        refine then_normal ?_
        refine fr_eq (b := ⟨([x0, x1, x2, undef, x4, (.int .i64 0), x8, x1, x8, undef, undef, undef, undef, undef, undef, undef, undef, undef, undef, undef, undef, undef, undef, undef, undef, undef, undef, undef, undef, undef, undef, undef, undef, undef, undef, undef, undef, undef, undef, undef, undef, undef, undef, undef, undef, undef, undef, undef, undef, undef] ++ [undef, undef, undef, undef, undef, undef, undef, undef, undef, undef, undef, undef, undef, undef, undef, undef, undef, undef, undef, undef, undef, undef, undef, undef, undef, undef, undef, undef, undef, undef, undef, undef, undef, undef, undef, undef, undef, undef, undef, undef, undef, undef, undef, undef]).toArray, []⟩) (by kernel_rfl) ?_
        refine wp_if rfl H (fun H => ?_) (fun H => ?_)
        · refine wp_exit ?_
          refine then_exit ?_
          refine then_exit ?_
          refine block_exit ?_
          refine then_normal ?_
          refine fr_eq (b := ⟨([x0, x1, x2, undef, x4, (.int .i64 0), x8, x1, x8, undef, undef, undef, undef, undef, undef, undef, undef, undef, undef, undef, undef, undef, undef, undef, undef, undef, undef, undef, undef, undef, undef, undef, undef, undef, undef, undef, undef, undef, undef, undef, undef, undef, undef, undef, undef, undef, undef, undef, undef, undef] ++ [undef, undef, undef, undef, undef, undef, undef, undef, undef, undef, undef, undef, undef, undef, undef, undef, undef, undef, undef, undef, undef, undef, undef, undef, undef, undef, undef, undef, undef, undef, undef, undef, undef, undef, undef, undef, undef, undef, undef, undef, undef, undef, undef, undef]).toArray, []⟩) (by kernel_rfl) ?_
          refine wp_seq ?_
          refine wp_seq ?_
          refine lwp_list ?_
          refine ls_p (d := some 57) (by kernel_rfl) (by kernel_rfl) (p_lit (pl := [(0, 1), (1, 1), (2, 1)]) Try.zeroValue23 Try.underlying23 ⟨(by kernel_rfl), Try.sizeOf3, (by kernel_rfl), Try.sizeOf3, (by kernel_rfl), Try.sizeOf3, trivial⟩ (by kernel_rfl) (by kernel_rfl) H) (fun x57 H => ?_)
          refine ls_d (d := none) (by kernel_rfl) (by kernel_rfl) HA_1 (d_stn Try.sizeOf23 (by kernel_rfl) (by kernel_rfl) H) (fun _ h_8 w_8 H HA_8 => ?_)
          refine ls_nil ?_
          refine then_normal ?_
          refine fr_eq (b := ⟨([x0, x1, x2, undef, x4, (.int .i64 0), x8, x1, x8, undef, undef, undef, undef, undef, undef, undef, undef, undef, undef, undef, undef, undef, undef, undef, undef, undef, undef, undef, undef, undef, undef, undef, undef, undef, undef, undef, undef, undef, undef, undef, undef, undef, undef, undef, undef, undef, undef, undef, undef, undef] ++ [undef, undef, undef, undef, undef, undef, undef, x57, undef, undef, undef, undef, undef, undef, undef, undef, undef, undef, undef, undef, undef, undef, undef, undef, undef, undef, undef, undef, undef, undef, undef, undef, undef, undef, undef, undef, undef, undef, undef, undef, undef, undef, undef, undef]).toArray, []⟩) (by kernel_rfl) ?_
          refine wp_ret ?_
          refine then_ret ?_
          refine block_ret ?_
          refine then_ret ?_
          refine block_ret ?_
          refine then_ret ?_
          refine block_ret ?_
          refine then_ret ?_
          refine block_ret ?_
          refine then_ret ?_
          refine block_ret ?_
          refine then_ret ?_
          refine then_ret ?_
          refine block_ret ?_
          refine then_ret ?_
          refine block_ret ?_
          refine then_ret ?_
          refine block_ret ?_
          refine then_ret ?_
          refine then_ret ?_
          refine block_ret ?_
          refine then_ret ?_
          refine block_ret ?_
          refine then_ret ?_
          refine then_ret ?_
          obtain ⟨r4_1, hr4_1, H⟩ := ld_n Try.isAgg23 Try.sizeOf23 H
          exact endR (vs := [r4_1]) (Try.results50) (by kernel_rfl) ⟨⟨_, (by kernel_rfl), hr4_1⟩, trivial⟩ HA_8 H _ (.inr rfl)
        · refine wp_skip ?_
          refine then_normal ?_
          refine fr_eq (b := ⟨([x0, x1, x2, undef, x4, (.int .i64 0), x8, x1, x8, undef, undef, undef, undef, undef, undef, undef, undef, undef, undef, undef, undef, undef, undef, undef, undef, undef, undef, undef, undef, undef, undef, undef, undef, undef, undef, undef, undef, undef, undef, undef, undef, undef, undef, undef, undef, undef, undef, undef, undef, undef] ++ [undef, undef, undef, undef, undef, undef, undef, undef, undef, undef, undef, undef, undef, undef, undef, undef, undef, undef, undef, undef, undef, undef, undef, undef, undef, undef, undef, undef, undef, undef, undef, undef, undef, undef, undef, undef, undef, undef, undef, undef, undef, undef, undef, undef]).toArray, []⟩) (by kernel_rfl) ?_
          refine wp_seq ?_
          refine wp_seq ?_
          refine lwp_list ?_
          refine ls_move (x := x1) (by kernel_rfl) (by kernel_rfl) ?_
          refine ls_d (d := some 11) (by kernel_rfl) (by kernel_rfl) HA_1 (d_call (by kernel_rfl) (by kernel_rfl) H) (fun x11 h_9 w_9 H HA_9 => ?_)
          refine ls_p (d := some 12) (by kernel_rfl) (by kernel_rfl) (p_sNe (by kernel_rfl) (by kernel_rfl) H) (fun x12 H => ?_)
          refine ls_assign (x := x12) (by kernel_rfl) (by kernel_rfl) ?_
          refine ls_nil ?_
          refine then_normal ?_
          refine fr_eq (b := ⟨([x0, x1, x2, undef, x4, (.int .i64 0), x8, x1, x8, x12, x1, x11, x12, undef, undef, undef, undef, undef, undef, undef, undef, undef, undef, undef, undef, undef, undef, undef, undef, undef, undef, undef, undef, undef, undef, undef, undef, undef, undef, undef, undef, undef, undef, undef, undef, undef, undef, undef, undef, undef] ++ [undef, undef, undef, undef, undef, undef, undef, undef, undef, undef, undef, undef, undef, undef, undef, undef, undef, undef, undef, undef, undef, undef, undef, undef, undef, undef, undef, undef, undef, undef, undef, undef, undef, undef, undef, undef, undef, undef, undef, undef, undef, undef, undef, undef]).toArray, []⟩) (by kernel_rfl) ?_
          refine wp_if rfl H (fun H => ?_) (fun H => ?_)
          · refine wp_exit ?_
            refine then_exit ?_
            refine then_exit ?_
            refine block_other rfl ?_
            refine then_exit ?_
            refine block_exit ?_
            refine then_normal ?_
            refine fr_eq (b := ⟨([x0, x1, x2, undef, x4, (.int .i64 0), x8, x1, x8, x12, x1, x11, x12, undef, undef, undef, undef, undef, undef, undef, undef, undef, undef, undef, undef, undef, undef, undef, undef, undef, undef, undef, undef, undef, undef, undef, undef, undef, undef, undef, undef, undef, undef, undef, undef, undef, undef, undef, undef, undef] ++ [undef, undef, undef, undef, undef, undef, undef, undef, undef, undef, undef, undef, undef, undef, undef, undef, undef, undef, undef, undef, undef, undef, undef, undef, undef, undef, undef, undef, undef, undef, undef, undef, undef, undef, undef, undef, undef, undef, undef, undef, undef, undef, undef, undef]).toArray, []⟩) (by kernel_rfl) ?_
            refine wp_seq ?_
            obtain ⟨C, HC, H⟩ := H
            refine lwp_mx (Nat.testBit 72) (Nat.testBit 8) (Nat.testBit 53) [0, 1, 0, 4, 15, 31, 63] C [0, 1, 2, 3, 4, 5, 6] (by kernel_rfl) (by kernel_rfl) (by kernel_rfl) HA_9 HC ?_
            intro w_10 HA_10
            refine lm_p (d := some 58) (by kernel_rfl) rfl (by kernel_rfl) (by kernel_rfl) (p_off Try.underlying23 rfl (fun w => ⟨_, Try.sizeOf3 w⟩) rfl (by kernel_rfl) H) (fun x58 H => ?_)
            refine lm_f (d := some 59) (by kernel_rfl) rfl (by kernel_rfl) (by kernel_rfl) (by kernel_rfl) (c_ld Try.isAgg3 (by kernel_rfl) H) (fun x59 H => ?_)
            refine lm_al (x := x1) (d := some 60) (by kernel_rfl) rfl (by kernel_rfl) (by kernel_rfl) (al_move (by kernel_rfl)) ?_
            refine lm_dc (d := some 61) (by kernel_rfl) rfl (by kernel_rfl) (by kernel_rfl) HA_10 (d_call (by kernel_rfl) (by kernel_rfl) H) (fun x61 h_10 w_11 H HA_11 => ?_)
            refine lm_p (d := some 62) (by kernel_rfl) rfl (by kernel_rfl) (by kernel_rfl) (p_bits (by decide) (by kernel_rfl) (by kernel_rfl) H) (fun x62 H => ?_)
            refine lm_p (d := some 63) (by kernel_rfl) rfl (by kernel_rfl) (by kernel_rfl) (p_off Try.underlying23 rfl (fun w => ⟨_, Try.sizeOf3 w⟩) rfl (by kernel_rfl) H) (fun x63 H => ?_)
            refine lm_fr (b := ⟨([x0, x1, x2, undef, x4, (.int .i64 0), x8, x1, x8, x12, x1, x11, x12, undef, undef, undef, undef, undef, undef, undef, undef, undef, undef, undef, undef, undef, undef, undef, undef, undef, undef, undef, undef, undef, undef, undef, undef, undef, undef, undef, undef, undef, undef, undef, undef, undef, undef, undef, undef, undef] ++ [undef, undef, undef, undef, undef, undef, undef, undef, x58, x59, x1, x61, x62, x63, undef, undef, undef, undef, undef, undef, undef, undef, undef, undef, undef, undef, undef, undef, undef, undef, undef, undef, undef, undef, undef, undef, undef, undef, undef, undef, undef, undef, undef, undef]).toArray, []⟩) (by kernel_rfl) ?_
            refine lm_d (d := none) (by kernel_rfl) rfl (by kernel_rfl) (by kernel_rfl) (by kernel_rfl) HA_11 (d_st Try.sizeOf3 (by kernel_rfl) (by kernel_rfl) H) (fun _ h_11 w_12 H HA_12 => ?_)
            refine lm_nil ?_
            refine then_normal ?_
            refine fr_eq (b := ⟨([x0, x1, x2, undef, x4, (.int .i64 0), x8, x1, x8, x12, x1, x11, x12, undef, undef, undef, undef, undef, undef, undef, undef, undef, undef, undef, undef, undef, undef, undef, undef, undef, undef, undef, undef, undef, undef, undef, undef, undef, undef, undef, undef, undef, undef, undef, undef, undef, undef, undef, undef, undef] ++ [undef, undef, undef, undef, undef, undef, undef, undef, x58, x59, x1, x61, x62, x63, undef, undef, undef, undef, undef, undef, undef, undef, undef, undef, undef, undef, undef, undef, undef, undef, undef, undef, undef, undef, undef, undef, undef, undef, undef, undef, undef, undef, undef, undef]).toArray, []⟩) (by kernel_rfl) ?_
            refine wp_exit ?_
            refine block_other rfl ?_
            refine then_exit ?_
            refine block_other rfl ?_
            refine then_exit ?_
            refine block_other rfl ?_
            refine then_exit ?_
            refine block_other rfl ?_
            refine then_exit ?_
            refine then_exit ?_
            refine block_other rfl ?_
            refine then_exit ?_
            refine block_other rfl ?_
            refine then_exit ?_
            refine block_other rfl ?_
            refine then_exit ?_
            refine then_exit ?_
            refine block_other rfl ?_
            refine then_exit ?_
            refine block_exit ?_
            exact ⟨(fun i => ([x1, (.int .i64 0), x8, x1, x8, x12, x1, x11, x12, undef, undef, undef, undef, undef, undef, undef, undef, undef, undef, undef, undef, undef, undef, undef, undef, undef, undef, undef, undef, undef, undef, undef, undef, undef, undef, undef, undef, undef, undef, undef, undef, undef, undef, undef, undef, undef, undef, undef, undef, undef] ++ [undef, undef, undef, undef, x58, x59, x1, x61, x62, x63, undef, undef, undef, undef, undef, undef, undef, undef, undef, undef, undef, undef, undef, undef, undef, undef, undef, undef, undef, undef, undef, undef, undef, undef, undef, undef, undef, undef, undef]).getD i undef), h_11, by kernel_rfl, HA_12, H⟩
          · refine wp_skip ?_
            refine then_normal ?_
            refine fr_eq (b := ⟨([x0, x1, x2, undef, x4, (.int .i64 0), x8, x1, x8, x12, x1, x11, x12, undef, undef, undef, undef, undef, undef, undef, undef, undef, undef, undef, undef, undef, undef, undef, undef, undef, undef, undef, undef, undef, undef, undef, undef, undef, undef, undef, undef, undef, undef, undef, undef, undef, undef, undef, undef, undef] ++ [undef, undef, undef, undef, undef, undef, undef, undef, undef, undef, undef, undef, undef, undef, undef, undef, undef, undef, undef, undef, undef, undef, undef, undef, undef, undef, undef, undef, undef, undef, undef, undef, undef, undef, undef, undef, undef, undef, undef, undef, undef, undef, undef, undef]).toArray, []⟩) (by kernel_rfl) ?_
            refine wp_seq ?_
            refine wp_seq ?_
            refine lwp_list ?_
            refine ls_move (x := x1) (by kernel_rfl) (by kernel_rfl) ?_
            refine ls_p (d := some 15) (by kernel_rfl) (by kernel_rfl) (p_sEq (by kernel_rfl) (by kernel_rfl) H) (fun x15 H => ?_)
            refine ls_assign (x := x15) (by kernel_rfl) (by kernel_rfl) ?_
            refine ls_nil ?_
            refine then_normal ?_
            refine fr_eq (b := ⟨([x0, x1, x2, undef, x4, (.int .i64 0), x8, x1, x8, x12, x1, x11, x12, x15, x1, x15, undef, undef, undef, undef, undef, undef, undef, undef, undef, undef, undef, undef, undef, undef, undef, undef, undef, undef, undef, undef, undef, undef, undef, undef, undef, undef, undef, undef, undef, undef, undef, undef, undef, undef] ++ [undef, undef, undef, undef, undef, undef, undef, undef, undef, undef, undef, undef, undef, undef, undef, undef, undef, undef, undef, undef, undef, undef, undef, undef, undef, undef, undef, undef, undef, undef, undef, undef, undef, undef, undef, undef, undef, undef, undef, undef, undef, undef, undef, undef]).toArray, []⟩) (by kernel_rfl) ?_
            refine wp_if rfl H (fun H => ?_) (fun H => ?_)
            · refine wp_exit ?_
              refine then_exit ?_
              refine then_exit ?_
              refine block_other rfl ?_
              refine then_exit ?_
              refine block_other rfl ?_
              refine then_exit ?_
              refine block_exit ?_
              refine then_normal ?_
              refine fr_eq (b := ⟨([x0, x1, x2, undef, x4, (.int .i64 0), x8, x1, x8, x12, x1, x11, x12, x15, x1, x15, undef, undef, undef, undef, undef, undef, undef, undef, undef, undef, undef, undef, undef, undef, undef, undef, undef, undef, undef, undef, undef, undef, undef, undef, undef, undef, undef, undef, undef, undef, undef, undef, undef, undef] ++ [undef, undef, undef, undef, undef, undef, undef, undef, undef, undef, undef, undef, undef, undef, undef, undef, undef, undef, undef, undef, undef, undef, undef, undef, undef, undef, undef, undef, undef, undef, undef, undef, undef, undef, undef, undef, undef, undef, undef, undef, undef, undef, undef, undef]).toArray, []⟩) (by kernel_rfl) ?_
              refine wp_seq ?_
              refine lwp_list ?_
              refine ls_p (d := some 64) (by kernel_rfl) (by kernel_rfl) (p_off Try.underlying23 rfl (fun w => ⟨_, Try.sizeOf3 w⟩) rfl (by kernel_rfl) H) (fun x64 H => ?_)
              refine ls_y (d := some 65) (by kernel_rfl) (by kernel_rfl) HA_9 (y_ld Try.isAgg3 (by kernel_rfl) H) (fun x65 H => ?_)
              refine ls_p (d := some 66) (by kernel_rfl) (by kernel_rfl) (p_bits (by decide) (by kernel_rfl) (by kernel_rfl) H) (fun x66 H => ?_)
              refine ls_p (d := some 67) (by kernel_rfl) (by kernel_rfl) (p_off Try.underlying23 rfl (fun w => ⟨_, Try.sizeOf3 w⟩) rfl (by kernel_rfl) H) (fun x67 H => ?_)
              refine ls_d (d := none) (by kernel_rfl) (by kernel_rfl) HA_9 (d_st Try.sizeOf3 (by kernel_rfl) (by kernel_rfl) H) (fun _ h_12 w_13 H HA_13 => ?_)
              refine ls_nil ?_
              refine then_normal ?_
              refine fr_eq (b := ⟨([x0, x1, x2, undef, x4, (.int .i64 0), x8, x1, x8, x12, x1, x11, x12, x15, x1, x15, undef, undef, undef, undef, undef, undef, undef, undef, undef, undef, undef, undef, undef, undef, undef, undef, undef, undef, undef, undef, undef, undef, undef, undef, undef, undef, undef, undef, undef, undef, undef, undef, undef, undef] ++ [undef, undef, undef, undef, undef, undef, undef, undef, undef, undef, undef, undef, undef, undef, x64, x65, x66, x67, undef, undef, undef, undef, undef, undef, undef, undef, undef, undef, undef, undef, undef, undef, undef, undef, undef, undef, undef, undef, undef, undef, undef, undef, undef, undef]).toArray, []⟩) (by kernel_rfl) ?_
              refine wp_exit ?_
              refine block_other rfl ?_
              refine then_exit ?_
              refine block_other rfl ?_
              refine then_exit ?_
              refine block_other rfl ?_
              refine then_exit ?_
              refine then_exit ?_
              refine block_other rfl ?_
              refine then_exit ?_
              refine block_other rfl ?_
              refine then_exit ?_
              refine block_other rfl ?_
              refine then_exit ?_
              refine then_exit ?_
              refine block_other rfl ?_
              refine then_exit ?_
              refine block_exit ?_
              exact ⟨(fun i => ([x1, (.int .i64 0), x8, x1, x8, x12, x1, x11, x12, x15, x1, x15, undef, undef, undef, undef, undef, undef, undef, undef, undef, undef, undef, undef, undef, undef, undef, undef, undef, undef, undef, undef, undef, undef, undef, undef, undef, undef, undef, undef, undef, undef, undef, undef, undef, undef, undef, undef, undef, undef] ++ [undef, undef, undef, undef, undef, undef, undef, undef, undef, undef, x64, x65, x66, x67, undef, undef, undef, undef, undef, undef, undef, undef, undef, undef, undef, undef, undef, undef, undef, undef, undef, undef, undef, undef, undef, undef, undef, undef, undef]).getD i undef), h_12, by kernel_rfl, HA_13, H⟩
            · refine wp_skip ?_
              refine then_normal ?_
              refine fr_eq (b := ⟨([x0, x1, x2, undef, x4, (.int .i64 0), x8, x1, x8, x12, x1, x11, x12, x15, x1, x15, undef, undef, undef, undef, undef, undef, undef, undef, undef, undef, undef, undef, undef, undef, undef, undef, undef, undef, undef, undef, undef, undef, undef, undef, undef, undef, undef, undef, undef, undef, undef, undef, undef, undef] ++ [undef, undef, undef, undef, undef, undef, undef, undef, undef, undef, undef, undef, undef, undef, undef, undef, undef, undef, undef, undef, undef, undef, undef, undef, undef, undef, undef, undef, undef, undef, undef, undef, undef, undef, undef, undef, undef, undef, undef, undef, undef, undef, undef, undef]).toArray, []⟩) (by kernel_rfl) ?_
              refine wp_seq ?_
              refine wp_seq ?_
              refine lwp_list ?_
              refine ls_move (x := x1) (by kernel_rfl) (by kernel_rfl) ?_
              refine ls_p (d := some 18) (by kernel_rfl) (by kernel_rfl) (p_sGe (by kernel_rfl) (by kernel_rfl) H) (fun x18 H => ?_)
              refine ls_move (x := x18) (by kernel_rfl) (by kernel_rfl) ?_
              refine ls_and [(), (), ()] (fun K a w => ∃ (D_3 : Nat → Value) (x22 : Value), a = ⟨([x0, x1, x2, undef, x4, (.int .i64 0), x8, x1, x8, x12, x1, x11, x12, x15, x1, x15, undef, x1, x18, x18, (D_3 0), (D_3 1), x22, undef, undef, undef, undef, undef, undef, undef, undef, undef, undef, undef, undef, undef, undef, undef, undef, undef, undef, undef, undef, undef, undef, undef, undef, undef, undef, undef] ++ [undef, undef, undef, undef, undef, undef, undef, undef, undef, undef, undef, undef, undef, undef, undef, undef, undef, undef, undef, undef, undef, undef, undef, undef, undef, undef, undef, undef, undef, undef, undef, undef, undef, undef, undef, undef, undef, undef, undef, undef, undef, undef, undef, undef]).toArray, []⟩ ∧ At w0 w h_9 ∧ K x22) H (fun hb_4 H => ?_) (fun hb_4 H => ?_) ?_
              · refine ls_move (x := x1) (by rw [hb_4]; kernel_rfl) (by kernel_rfl) ?_
                refine ls_p (d := some 21) (by kernel_rfl) (by rw [hb_4]; kernel_rfl) (p_sLe (by kernel_rfl) (by kernel_rfl) H) (fun x21 H => ?_)
                refine ls_pick_t (x := x21) (by kernel_rfl) (by rw [hb_4]; kernel_rfl) (by kernel_rfl) ?_
                refine ls_nil ?_
                refine then_normal ?_
                exact ⟨(fun i => ([x1, x21]).getD i undef), x21, by kernel_rfl, HA_9, H⟩
              · refine ls_skip (d := some 20) (by kernel_rfl) (by rw [hb_4]; kernel_rfl) ?_
                refine ls_skip (d := some 21) (by kernel_rfl) (by rw [hb_4]; kernel_rfl) ?_
                refine ls_pick_f (y := (.bool false)) (by kernel_rfl) (by rw [hb_4]; kernel_rfl) (by kernel_rfl) ?_
                refine ls_nil ?_
                refine then_normal ?_
                exact ⟨(fun i => ([undef, undef]).getD i undef), (.bool false), by kernel_rfl, HA_9, H⟩
              · rintro _ w_14 ⟨D_3, x22, rfl, HA_14, H⟩
                refine ls_assign (x := x22) (by kernel_rfl) (by kernel_rfl) ?_
                refine ls_nil ?_
                refine then_normal ?_
                refine fr_eq (b := ⟨([x0, x1, x2, undef, x4, (.int .i64 0), x8, x1, x8, x12, x1, x11, x12, x15, x1, x15, x22, x1, x18, x18, (D_3 0), (D_3 1), x22, undef, undef, undef, undef, undef, undef, undef, undef, undef, undef, undef, undef, undef, undef, undef, undef, undef, undef, undef, undef, undef, undef, undef, undef, undef, undef, undef] ++ [undef, undef, undef, undef, undef, undef, undef, undef, undef, undef, undef, undef, undef, undef, undef, undef, undef, undef, undef, undef, undef, undef, undef, undef, undef, undef, undef, undef, undef, undef, undef, undef, undef, undef, undef, undef, undef, undef, undef, undef, undef, undef, undef, undef]).toArray, []⟩) (by kernel_rfl) ?_
                refine wp_if rfl H (fun H => ?_) (fun H => ?_)
                · refine wp_exit ?_
                  refine then_exit ?_
                  refine then_exit ?_
                  refine block_other rfl ?_
                  refine then_exit ?_
                  refine block_other rfl ?_
                  refine then_exit ?_
                  refine block_other rfl ?_
                  refine then_exit ?_
                  refine block_exit ?_
                  refine then_normal ?_
                  refine fr_eq (b := ⟨([x0, x1, x2, undef, x4, (.int .i64 0), x8, x1, x8, x12, x1, x11, x12, x15, x1, x15, x22, x1, x18, x18, (D_3 0), (D_3 1), x22, undef, undef, undef, undef, undef, undef, undef, undef, undef, undef, undef, undef, undef, undef, undef, undef, undef, undef, undef, undef, undef, undef, undef, undef, undef, undef, undef] ++ [undef, undef, undef, undef, undef, undef, undef, undef, undef, undef, undef, undef, undef, undef, undef, undef, undef, undef, undef, undef, undef, undef, undef, undef, undef, undef, undef, undef, undef, undef, undef, undef, undef, undef, undef, undef, undef, undef, undef, undef, undef, undef, undef, undef]).toArray, []⟩) (by kernel_rfl) ?_
                  refine wp_seq ?_
                  obtain ⟨C_1, HC, H⟩ := H
                  refine lwp_mx (Nat.testBit 144) (Nat.testBit 16) (Nat.testBit 109) [0, 1, 0, 4, 12, 31, 63, 127] C_1 [0, 1, 2, 3, 4, 5, 6, 7] (by kernel_rfl) (by kernel_rfl) (by kernel_rfl) HA_14 HC ?_
                  intro w_15 HA_15
                  refine lm_p (d := some 68) (by kernel_rfl) rfl (by kernel_rfl) (by kernel_rfl) (p_off Try.underlying23 rfl (fun w => ⟨_, Try.sizeOf3 w⟩) rfl (by kernel_rfl) H) (fun x68 H => ?_)
                  refine lm_f (d := some 69) (by kernel_rfl) rfl (by kernel_rfl) (by kernel_rfl) (by kernel_rfl) (c_ld Try.isAgg3 (by kernel_rfl) H) (fun x69 H => ?_)
                  refine lm_al (x := x1) (d := some 70) (by kernel_rfl) rfl (by kernel_rfl) (by kernel_rfl) (al_move (by kernel_rfl)) ?_
                  refine lm_p (d := some 71) (by kernel_rfl) rfl (by kernel_rfl) (by kernel_rfl) (p_sub (by kernel_rfl) (by kernel_rfl) H) (fun x71 H => ?_)
                  refine lm_dc (d := some 72) (by kernel_rfl) rfl (by kernel_rfl) (by kernel_rfl) HA_15 (d_call (by kernel_rfl) (by kernel_rfl) H) (fun x72 h_13 w_16 H HA_16 => ?_)
                  refine lm_p (d := some 73) (by kernel_rfl) rfl (by kernel_rfl) (by kernel_rfl) (p_bits (by decide) (by kernel_rfl) (by kernel_rfl) H) (fun x73 H => ?_)
                  refine lm_fr (b := ⟨([x0, x1, x2, undef, x4, (.int .i64 0), x8, x1, x8, x12, x1, x11, x12, x15, x1, x15, x22, x1, x18, x18, (D_3 0), (D_3 1), x22, undef, undef, undef, undef, undef, undef, undef, undef, undef, undef, undef, undef, undef, undef, undef, undef, undef, undef, undef, undef, undef, undef, undef, undef, undef, undef, undef] ++ [undef, undef, undef, undef, undef, undef, undef, undef, undef, undef, undef, undef, undef, undef, undef, undef, undef, undef, x68, x69, x1, x71, x72, x73, undef, undef, undef, undef, undef, undef, undef, undef, undef, undef, undef, undef, undef, undef, undef, undef, undef, undef, undef, undef]).toArray, []⟩) (by kernel_rfl) ?_
                  refine lm_p (d := some 74) (by kernel_rfl) rfl (by kernel_rfl) (by kernel_rfl) (p_off Try.underlying23 rfl (fun w => ⟨_, Try.sizeOf3 w⟩) rfl (by kernel_rfl) H) (fun x74 H => ?_)
                  refine lm_d (d := none) (by kernel_rfl) rfl (by kernel_rfl) (by kernel_rfl) (by kernel_rfl) HA_16 (d_st Try.sizeOf3 (by kernel_rfl) (by kernel_rfl) H) (fun _ h_14 w_17 H HA_17 => ?_)
                  refine lm_nil ?_
                  refine then_normal ?_
                  refine fr_eq (b := ⟨([x0, x1, x2, undef, x4, (.int .i64 0), x8, x1, x8, x12, x1, x11, x12, x15, x1, x15, x22, x1, x18, x18, (D_3 0), (D_3 1), x22, undef, undef, undef, undef, undef, undef, undef, undef, undef, undef, undef, undef, undef, undef, undef, undef, undef, undef, undef, undef, undef, undef, undef, undef, undef, undef, undef] ++ [undef, undef, undef, undef, undef, undef, undef, undef, undef, undef, undef, undef, undef, undef, undef, undef, undef, undef, x68, x69, x1, x71, x72, x73, x74, undef, undef, undef, undef, undef, undef, undef, undef, undef, undef, undef, undef, undef, undef, undef, undef, undef, undef, undef]).toArray, []⟩) (by kernel_rfl) ?_
                  refine wp_exit ?_
                  refine block_other rfl ?_
                  refine then_exit ?_
                  refine block_other rfl ?_
                  refine then_exit ?_
                  refine then_exit ?_
                  refine block_other rfl ?_
                  refine then_exit ?_
                  refine block_other rfl ?_
                  refine then_exit ?_
                  refine block_other rfl ?_
                  refine then_exit ?_
                  refine then_exit ?_
                  refine block_other rfl ?_
                  refine then_exit ?_
                  refine block_exit ?_
                  exact ⟨(fun i => ([x1, (.int .i64 0), x8, x1, x8, x12, x1, x11, x12, x15, x1, x15, x22, x1, x18, x18, (D_3 0), (D_3 1), x22, undef, undef, undef, undef, undef, undef, undef, undef, undef, undef, undef, undef, undef, undef, undef, undef, undef, undef, undef, undef, undef, undef, undef, undef, undef, undef, undef, undef, undef, undef, undef] ++ [undef, undef, undef, undef, undef, undef, undef, undef, undef, undef, undef, undef, undef, undef, x68, x69, x1, x71, x72, x73, x74, undef, undef, undef, undef, undef, undef, undef, undef, undef, undef, undef, undef, undef, undef, undef, undef, undef, undef]).getD i undef), h_14, by kernel_rfl, HA_17, H⟩
                · refine wp_skip ?_
                  refine then_normal ?_
                  refine fr_eq (b := ⟨([x0, x1, x2, undef, x4, (.int .i64 0), x8, x1, x8, x12, x1, x11, x12, x15, x1, x15, x22, x1, x18, x18, (D_3 0), (D_3 1), x22, undef, undef, undef, undef, undef, undef, undef, undef, undef, undef, undef, undef, undef, undef, undef, undef, undef, undef, undef, undef, undef, undef, undef, undef, undef, undef, undef] ++ [undef, undef, undef, undef, undef, undef, undef, undef, undef, undef, undef, undef, undef, undef, undef, undef, undef, undef, undef, undef, undef, undef, undef, undef, undef, undef, undef, undef, undef, undef, undef, undef, undef, undef, undef, undef, undef, undef, undef, undef, undef, undef, undef, undef]).toArray, []⟩) (by kernel_rfl) ?_
                  refine wp_seq ?_
                  refine wp_seq ?_
                  refine lwp_list ?_
                  refine ls_move (x := x1) (by kernel_rfl) (by kernel_rfl) ?_
                  refine ls_p (d := some 25) (by kernel_rfl) (by kernel_rfl) (p_sGe (by kernel_rfl) (by kernel_rfl) H) (fun x25 H => ?_)
                  refine ls_move (x := x25) (by kernel_rfl) (by kernel_rfl) ?_
                  refine ls_and [(), (), ()] (fun K a w => ∃ (D_4 : Nat → Value) (x29 : Value), a = ⟨([x0, x1, x2, undef, x4, (.int .i64 0), x8, x1, x8, x12, x1, x11, x12, x15, x1, x15, x22, x1, x18, x18, (D_3 0), (D_3 1), x22, undef, x1, x25, x25, (D_4 0), (D_4 1), x29, undef, undef, undef, undef, undef, undef, undef, undef, undef, undef, undef, undef, undef, undef, undef, undef, undef, undef, undef, undef] ++ [undef, undef, undef, undef, undef, undef, undef, undef, undef, undef, undef, undef, undef, undef, undef, undef, undef, undef, undef, undef, undef, undef, undef, undef, undef, undef, undef, undef, undef, undef, undef, undef, undef, undef, undef, undef, undef, undef, undef, undef, undef, undef, undef, undef]).toArray, []⟩ ∧ At w0 w h_9 ∧ K x29) H (fun hb_3 H => ?_) (fun hb_3 H => ?_) ?_
                  · refine ls_move (x := x1) (by rw [hb_3]; kernel_rfl) (by kernel_rfl) ?_
                    refine ls_p (d := some 28) (by kernel_rfl) (by rw [hb_3]; kernel_rfl) (p_sLe (by kernel_rfl) (by kernel_rfl) H) (fun x28 H => ?_)
                    refine ls_pick_t (x := x28) (by kernel_rfl) (by rw [hb_3]; kernel_rfl) (by kernel_rfl) ?_
                    refine ls_nil ?_
                    refine then_normal ?_
                    exact ⟨(fun i => ([x1, x28]).getD i undef), x28, by kernel_rfl, HA_14, H⟩
                  · refine ls_skip (d := some 27) (by kernel_rfl) (by rw [hb_3]; kernel_rfl) ?_
                    refine ls_skip (d := some 28) (by kernel_rfl) (by rw [hb_3]; kernel_rfl) ?_
                    refine ls_pick_f (y := (.bool false)) (by kernel_rfl) (by rw [hb_3]; kernel_rfl) (by kernel_rfl) ?_
                    refine ls_nil ?_
                    refine then_normal ?_
                    exact ⟨(fun i => ([undef, undef]).getD i undef), (.bool false), by kernel_rfl, HA_14, H⟩
                  · rintro _ w_18 ⟨D_4, x29, rfl, HA_18, H⟩
                    refine ls_assign (x := x29) (by kernel_rfl) (by kernel_rfl) ?_
                    refine ls_nil ?_
                    refine then_normal ?_
                    refine fr_eq (b := ⟨([x0, x1, x2, undef, x4, (.int .i64 0), x8, x1, x8, x12, x1, x11, x12, x15, x1, x15, x22, x1, x18, x18, (D_3 0), (D_3 1), x22, x29, x1, x25, x25, (D_4 0), (D_4 1), x29, undef, undef, undef, undef, undef, undef, undef, undef, undef, undef, undef, undef, undef, undef, undef, undef, undef, undef, undef, undef] ++ [undef, undef, undef, undef, undef, undef, undef, undef, undef, undef, undef, undef, undef, undef, undef, undef, undef, undef, undef, undef, undef, undef, undef, undef, undef, undef, undef, undef, undef, undef, undef, undef, undef, undef, undef, undef, undef, undef, undef, undef, undef, undef, undef, undef]).toArray, []⟩) (by kernel_rfl) ?_
                    refine wp_if rfl H (fun H => ?_) (fun H => ?_)
                    · refine wp_exit ?_
                      refine then_exit ?_
                      refine then_exit ?_
                      refine block_other rfl ?_
                      refine then_exit ?_
                      refine block_other rfl ?_
                      refine then_exit ?_
                      refine block_other rfl ?_
                      refine then_exit ?_
                      refine block_other rfl ?_
                      refine then_exit ?_
                      refine block_exit ?_
                      refine then_normal ?_
                      refine fr_eq (b := ⟨([x0, x1, x2, undef, x4, (.int .i64 0), x8, x1, x8, x12, x1, x11, x12, x15, x1, x15, x22, x1, x18, x18, (D_3 0), (D_3 1), x22, x29, x1, x25, x25, (D_4 0), (D_4 1), x29, undef, undef, undef, undef, undef, undef, undef, undef, undef, undef, undef, undef, undef, undef, undef, undef, undef, undef, undef, undef] ++ [undef, undef, undef, undef, undef, undef, undef, undef, undef, undef, undef, undef, undef, undef, undef, undef, undef, undef, undef, undef, undef, undef, undef, undef, undef, undef, undef, undef, undef, undef, undef, undef, undef, undef, undef, undef, undef, undef, undef, undef, undef, undef, undef, undef]).toArray, []⟩) (by kernel_rfl) ?_
                      refine wp_seq ?_
                      refine lwp_list ?_
                      refine ls_assign (x := (.int .i64 8)) (by kernel_rfl) (by kernel_rfl) ?_
                      refine ls_nil ?_
                      refine then_normal ?_
                      refine fr_eq (b := ⟨([x0, x1, x2, undef, x4, (.int .i64 8), x8, x1, x8, x12, x1, x11, x12, x15, x1, x15, x22, x1, x18, x18, (D_3 0), (D_3 1), x22, x29, x1, x25, x25, (D_4 0), (D_4 1), x29, undef, undef, undef, undef, undef, undef, undef, undef, undef, undef, undef, undef, undef, undef, undef, undef, undef, undef, undef, undef] ++ [undef, undef, undef, undef, undef, undef, undef, undef, undef, undef, undef, undef, undef, undef, undef, undef, undef, undef, undef, undef, undef, undef, undef, undef, undef, undef, undef, undef, undef, undef, undef, undef, undef, undef, undef, undef, undef, undef, undef, undef, undef, undef, undef, undef]).toArray, []⟩) (by kernel_rfl) ?_
                      refine lwp_list ?_
                      refine ls_move (x := x1) (by kernel_rfl) (by kernel_rfl) ?_
                      refine ls_p (d := some 76) (by kernel_rfl) (by kernel_rfl) (p_sub (by kernel_rfl) (by kernel_rfl) H) (fun x76 H => ?_)
                      refine ls_assign (x := x76) (by kernel_rfl) (by kernel_rfl) ?_
                      refine ls_nil ?_
                      refine block_normal ?_
                      exact ⟨(fun i => ([x8, x1, x8, x12, x1, x11, x12, x15, x1, x15, x22, x1, x18, x18, (D_3 0), (D_3 1), x22, x29, x1, x25, x25, (D_4 0), (D_4 1), x29, undef, undef, undef, undef, undef, undef, undef, undef, undef, undef, undef, undef, undef, undef, undef, undef, undef, undef, undef, undef, undef, undef, undef, undef, undef, undef] ++ [undef, undef, undef, undef, undef, undef, undef, undef, undef, undef, undef, undef, undef, undef, undef, undef, undef, undef, undef, x1, x76]).getD i undef), x76, (.int .i64 8), h_9, by kernel_rfl, HA_18, H⟩
                    · refine wp_skip ?_
                      refine then_normal ?_
                      refine fr_eq (b := ⟨([x0, x1, x2, undef, x4, (.int .i64 0), x8, x1, x8, x12, x1, x11, x12, x15, x1, x15, x22, x1, x18, x18, (D_3 0), (D_3 1), x22, x29, x1, x25, x25, (D_4 0), (D_4 1), x29, undef, undef, undef, undef, undef, undef, undef, undef, undef, undef, undef, undef, undef, undef, undef, undef, undef, undef, undef, undef] ++ [undef, undef, undef, undef, undef, undef, undef, undef, undef, undef, undef, undef, undef, undef, undef, undef, undef, undef, undef, undef, undef, undef, undef, undef, undef, undef, undef, undef, undef, undef, undef, undef, undef, undef, undef, undef, undef, undef, undef, undef, undef, undef, undef, undef]).toArray, []⟩) (by kernel_rfl) ?_
                      refine wp_seq ?_
                      refine wp_seq ?_
                      refine lwp_list ?_
                      refine ls_move (x := x1) (by kernel_rfl) (by kernel_rfl) ?_
                      refine ls_p (d := some 32) (by kernel_rfl) (by kernel_rfl) (p_sGe (by kernel_rfl) (by kernel_rfl) H) (fun x32 H => ?_)
                      refine ls_move (x := x32) (by kernel_rfl) (by kernel_rfl) ?_
                      refine ls_and [(), (), ()] (fun K a w => ∃ (D_5 : Nat → Value) (x36 : Value), a = ⟨([x0, x1, x2, undef, x4, (.int .i64 0), x8, x1, x8, x12, x1, x11, x12, x15, x1, x15, x22, x1, x18, x18, (D_3 0), (D_3 1), x22, x29, x1, x25, x25, (D_4 0), (D_4 1), x29, undef, x1, x32, x32, (D_5 0), (D_5 1), x36, undef, undef, undef, undef, undef, undef, undef, undef, undef, undef, undef, undef, undef] ++ [undef, undef, undef, undef, undef, undef, undef, undef, undef, undef, undef, undef, undef, undef, undef, undef, undef, undef, undef, undef, undef, undef, undef, undef, undef, undef, undef, undef, undef, undef, undef, undef, undef, undef, undef, undef, undef, undef, undef, undef, undef, undef, undef, undef]).toArray, []⟩ ∧ At w0 w h_9 ∧ K x36) H (fun hb_2 H => ?_) (fun hb_2 H => ?_) ?_
                      · refine ls_move (x := x1) (by rw [hb_2]; kernel_rfl) (by kernel_rfl) ?_
                        refine ls_p (d := some 35) (by kernel_rfl) (by rw [hb_2]; kernel_rfl) (p_sLe (by kernel_rfl) (by kernel_rfl) H) (fun x35 H => ?_)
                        refine ls_pick_t (x := x35) (by kernel_rfl) (by rw [hb_2]; kernel_rfl) (by kernel_rfl) ?_
                        refine ls_nil ?_
                        refine then_normal ?_
                        exact ⟨(fun i => ([x1, x35]).getD i undef), x35, by kernel_rfl, HA_18, H⟩
                      · refine ls_skip (d := some 34) (by kernel_rfl) (by rw [hb_2]; kernel_rfl) ?_
                        refine ls_skip (d := some 35) (by kernel_rfl) (by rw [hb_2]; kernel_rfl) ?_
                        refine ls_pick_f (y := (.bool false)) (by kernel_rfl) (by rw [hb_2]; kernel_rfl) (by kernel_rfl) ?_
                        refine ls_nil ?_
                        refine then_normal ?_
                        exact ⟨(fun i => ([undef, undef]).getD i undef), (.bool false), by kernel_rfl, HA_18, H⟩
                      · rintro _ w_19 ⟨D_5, x36, rfl, HA_19, H⟩
                        refine ls_assign (x := x36) (by kernel_rfl) (by kernel_rfl) ?_
                        refine ls_nil ?_
                        refine then_normal ?_
                        refine fr_eq (b := ⟨([x0, x1, x2, undef, x4, (.int .i64 0), x8, x1, x8, x12, x1, x11, x12, x15, x1, x15, x22, x1, x18, x18, (D_3 0), (D_3 1), x22, x29, x1, x25, x25, (D_4 0), (D_4 1), x29, x36, x1, x32, x32, (D_5 0), (D_5 1), x36, undef, undef, undef, undef, undef, undef, undef, undef, undef, undef, undef, undef, undef] ++ [undef, undef, undef, undef, undef, undef, undef, undef, undef, undef, undef, undef, undef, undef, undef, undef, undef, undef, undef, undef, undef, undef, undef, undef, undef, undef, undef, undef, undef, undef, undef, undef, undef, undef, undef, undef, undef, undef, undef, undef, undef, undef, undef, undef]).toArray, []⟩) (by kernel_rfl) ?_
                        refine wp_if rfl H (fun H => ?_) (fun H => ?_)
                        · refine wp_exit ?_
                          refine then_exit ?_
                          refine then_exit ?_
                          refine block_other rfl ?_
                          refine then_exit ?_
                          refine block_other rfl ?_
                          refine then_exit ?_
                          refine block_other rfl ?_
                          refine then_exit ?_
                          refine block_other rfl ?_
                          refine then_exit ?_
                          refine block_other rfl ?_
                          refine then_exit ?_
                          refine block_exit ?_
                          exact ⟨(fun i => ([x8, x1, x8, x12, x1, x11, x12, x15, x1, x15, x22, x1, x18, x18, (D_3 0), (D_3 1), x22, x29, x1, x25, x25, (D_4 0), (D_4 1), x29, x36, x1, x32, x32, (D_5 0), (D_5 1), x36, undef, undef, undef, undef, undef, undef, undef, undef, undef, undef, undef, undef, undef, undef, undef, undef, undef, undef, undef] ++ [undef, undef, undef, undef, undef, undef, undef, undef, undef, undef, undef, undef, undef, undef, undef, undef, undef, undef, undef, undef, undef]).getD i undef), x1, (.int .i64 0), h_9, by kernel_rfl, HA_19, H⟩
                        · refine wp_skip ?_
                          refine then_normal ?_
                          refine fr_eq (b := ⟨([x0, x1, x2, undef, x4, (.int .i64 0), x8, x1, x8, x12, x1, x11, x12, x15, x1, x15, x22, x1, x18, x18, (D_3 0), (D_3 1), x22, x29, x1, x25, x25, (D_4 0), (D_4 1), x29, x36, x1, x32, x32, (D_5 0), (D_5 1), x36, undef, undef, undef, undef, undef, undef, undef, undef, undef, undef, undef, undef, undef] ++ [undef, undef, undef, undef, undef, undef, undef, undef, undef, undef, undef, undef, undef, undef, undef, undef, undef, undef, undef, undef, undef, undef, undef, undef, undef, undef, undef, undef, undef, undef, undef, undef, undef, undef, undef, undef, undef, undef, undef, undef, undef, undef, undef, undef]).toArray, []⟩) (by kernel_rfl) ?_
                          refine wp_seq ?_
                          refine wp_seq ?_
                          refine lwp_list ?_
                          refine ls_move (x := x1) (by kernel_rfl) (by kernel_rfl) ?_
                          refine ls_p (d := some 39) (by kernel_rfl) (by kernel_rfl) (p_sEq (by kernel_rfl) (by kernel_rfl) H) (fun x39 H => ?_)
                          refine ls_assign (x := x39) (by kernel_rfl) (by kernel_rfl) ?_
                          refine ls_nil ?_
                          refine then_normal ?_
                          refine fr_eq (b := ⟨([x0, x1, x2, undef, x4, (.int .i64 0), x8, x1, x8, x12, x1, x11, x12, x15, x1, x15, x22, x1, x18, x18, (D_3 0), (D_3 1), x22, x29, x1, x25, x25, (D_4 0), (D_4 1), x29, x36, x1, x32, x32, (D_5 0), (D_5 1), x36, x39, x1, x39, undef, undef, undef, undef, undef, undef, undef, undef, undef, undef] ++ [undef, undef, undef, undef, undef, undef, undef, undef, undef, undef, undef, undef, undef, undef, undef, undef, undef, undef, undef, undef, undef, undef, undef, undef, undef, undef, undef, undef, undef, undef, undef, undef, undef, undef, undef, undef, undef, undef, undef, undef, undef, undef, undef, undef]).toArray, []⟩) (by kernel_rfl) ?_
                          refine wp_if rfl H (fun H => ?_) (fun H => ?_)
                          · refine wp_exit ?_
                            refine then_exit ?_
                            refine then_exit ?_
                            refine block_other rfl ?_
                            refine then_exit ?_
                            refine block_other rfl ?_
                            refine then_exit ?_
                            refine block_other rfl ?_
                            refine then_exit ?_
                            refine block_other rfl ?_
                            refine then_exit ?_
                            refine block_other rfl ?_
                            refine then_exit ?_
                            refine block_other rfl ?_
                            refine then_exit ?_
                            refine then_exit ?_
                            refine block_exit ?_
                            refine then_normal ?_
                            refine fr_eq (b := ⟨([x0, x1, x2, undef, x4, (.int .i64 0), x8, x1, x8, x12, x1, x11, x12, x15, x1, x15, x22, x1, x18, x18, (D_3 0), (D_3 1), x22, x29, x1, x25, x25, (D_4 0), (D_4 1), x29, x36, x1, x32, x32, (D_5 0), (D_5 1), x36, x39, x1, x39, undef, undef, undef, undef, undef, undef, undef, undef, undef, undef] ++ [undef, undef, undef, undef, undef, undef, undef, undef, undef, undef, undef, undef, undef, undef, undef, undef, undef, undef, undef, undef, undef, undef, undef, undef, undef, undef, undef, undef, undef, undef, undef, undef, undef, undef, undef, undef, undef, undef, undef, undef, undef, undef, undef, undef]).toArray, []⟩) (by kernel_rfl) ?_
                            refine wp_seq ?_
                            refine lwp_list ?_
                            refine ls_p (d := some 83) (by kernel_rfl) (by kernel_rfl) (p_off Try.underlying23 rfl (fun w => ⟨_, Try.sizeOf3 w⟩) rfl (by kernel_rfl) H) (fun x83 H => ?_)
                            refine ls_d (d := none) (by kernel_rfl) (by kernel_rfl) HA_19 (d_st Try.sizeOf3 (by kernel_rfl) (by kernel_rfl) H) (fun _ h_15 w_20 H HA_20 => ?_)
                            refine ls_nil ?_
                            refine then_normal ?_
                            refine fr_eq (b := ⟨([x0, x1, x2, undef, x4, (.int .i64 0), x8, x1, x8, x12, x1, x11, x12, x15, x1, x15, x22, x1, x18, x18, (D_3 0), (D_3 1), x22, x29, x1, x25, x25, (D_4 0), (D_4 1), x29, x36, x1, x32, x32, (D_5 0), (D_5 1), x36, x39, x1, x39, undef, undef, undef, undef, undef, undef, undef, undef, undef, undef] ++ [undef, undef, undef, undef, undef, undef, undef, undef, undef, undef, undef, undef, undef, undef, undef, undef, undef, undef, undef, undef, undef, undef, undef, undef, undef, undef, undef, undef, undef, undef, undef, undef, undef, x83, undef, undef, undef, undef, undef, undef, undef, undef, undef, undef]).toArray, []⟩) (by kernel_rfl) ?_
                            refine wp_exit ?_
                            refine block_other rfl ?_
                            refine then_exit ?_
                            refine block_other rfl ?_
                            refine then_exit ?_
                            refine then_exit ?_
                            refine block_other rfl ?_
                            refine then_exit ?_
                            refine block_exit ?_
                            exact ⟨(fun i => ([x1, (.int .i64 0), x8, x1, x8, x12, x1, x11, x12, x15, x1, x15, x22, x1, x18, x18, (D_3 0), (D_3 1), x22, x29, x1, x25, x25, (D_4 0), (D_4 1), x29, x36, x1, x32, x32, (D_5 0), (D_5 1), x36, x39, x1, x39, undef, undef, undef, undef, undef, undef, undef, undef, undef, undef, undef, undef, undef, undef] ++ [undef, undef, undef, undef, undef, undef, undef, undef, undef, undef, undef, undef, undef, undef, undef, undef, undef, undef, undef, undef, undef, undef, undef, undef, undef, undef, undef, undef, undef, x83, undef, undef, undef, undef, undef, undef, undef, undef, undef]).getD i undef), h_15, by kernel_rfl, HA_20, H⟩
                          · refine wp_skip ?_
                            refine then_normal ?_
                            refine fr_eq (b := ⟨([x0, x1, x2, undef, x4, (.int .i64 0), x8, x1, x8, x12, x1, x11, x12, x15, x1, x15, x22, x1, x18, x18, (D_3 0), (D_3 1), x22, x29, x1, x25, x25, (D_4 0), (D_4 1), x29, x36, x1, x32, x32, (D_5 0), (D_5 1), x36, x39, x1, x39, undef, undef, undef, undef, undef, undef, undef, undef, undef, undef] ++ [undef, undef, undef, undef, undef, undef, undef, undef, undef, undef, undef, undef, undef, undef, undef, undef, undef, undef, undef, undef, undef, undef, undef, undef, undef, undef, undef, undef, undef, undef, undef, undef, undef, undef, undef, undef, undef, undef, undef, undef, undef, undef, undef, undef]).toArray, []⟩) (by kernel_rfl) ?_
                            refine wp_seq ?_
                            refine wp_seq ?_
                            refine lwp_list ?_
                            refine ls_move (x := x1) (by kernel_rfl) (by kernel_rfl) ?_
                            refine ls_p (d := some 42) (by kernel_rfl) (by kernel_rfl) (p_sGe (by kernel_rfl) (by kernel_rfl) H) (fun x42 H => ?_)
                            refine ls_move (x := x42) (by kernel_rfl) (by kernel_rfl) ?_
                            refine ls_and [(), (), ()] (fun K a w => ∃ (D_6 : Nat → Value) (x46 : Value), a = ⟨([x0, x1, x2, undef, x4, (.int .i64 0), x8, x1, x8, x12, x1, x11, x12, x15, x1, x15, x22, x1, x18, x18, (D_3 0), (D_3 1), x22, x29, x1, x25, x25, (D_4 0), (D_4 1), x29, x36, x1, x32, x32, (D_5 0), (D_5 1), x36, x39, x1, x39, undef, x1, x42, x42, (D_6 0), (D_6 1), x46, undef, undef, undef] ++ [undef, undef, undef, undef, undef, undef, undef, undef, undef, undef, undef, undef, undef, undef, undef, undef, undef, undef, undef, undef, undef, undef, undef, undef, undef, undef, undef, undef, undef, undef, undef, undef, undef, undef, undef, undef, undef, undef, undef, undef, undef, undef, undef, undef]).toArray, []⟩ ∧ At w0 w h_9 ∧ K x46) H (fun hb_1 H => ?_) (fun hb_1 H => ?_) ?_
                            · refine ls_move (x := x1) (by rw [hb_1]; kernel_rfl) (by kernel_rfl) ?_
                              refine ls_p (d := some 45) (by kernel_rfl) (by rw [hb_1]; kernel_rfl) (p_sLe (by kernel_rfl) (by kernel_rfl) H) (fun x45 H => ?_)
                              refine ls_pick_t (x := x45) (by kernel_rfl) (by rw [hb_1]; kernel_rfl) (by kernel_rfl) ?_
                              refine ls_nil ?_
                              refine then_normal ?_
                              exact ⟨(fun i => ([x1, x45]).getD i undef), x45, by kernel_rfl, HA_19, H⟩
                            · refine ls_skip (d := some 44) (by kernel_rfl) (by rw [hb_1]; kernel_rfl) ?_
                              refine ls_skip (d := some 45) (by kernel_rfl) (by rw [hb_1]; kernel_rfl) ?_
                              refine ls_pick_f (y := (.bool false)) (by kernel_rfl) (by rw [hb_1]; kernel_rfl) (by kernel_rfl) ?_
                              refine ls_nil ?_
                              refine then_normal ?_
                              exact ⟨(fun i => ([undef, undef]).getD i undef), (.bool false), by kernel_rfl, HA_19, H⟩
                            · rintro _ w_21 ⟨D_6, x46, rfl, HA_21, H⟩
                              refine ls_assign (x := x46) (by kernel_rfl) (by kernel_rfl) ?_
                              refine ls_nil ?_
                              refine then_normal ?_
                              refine fr_eq (b := ⟨([x0, x1, x2, undef, x4, (.int .i64 0), x8, x1, x8, x12, x1, x11, x12, x15, x1, x15, x22, x1, x18, x18, (D_3 0), (D_3 1), x22, x29, x1, x25, x25, (D_4 0), (D_4 1), x29, x36, x1, x32, x32, (D_5 0), (D_5 1), x36, x39, x1, x39, x46, x1, x42, x42, (D_6 0), (D_6 1), x46, undef, undef, undef] ++ [undef, undef, undef, undef, undef, undef, undef, undef, undef, undef, undef, undef, undef, undef, undef, undef, undef, undef, undef, undef, undef, undef, undef, undef, undef, undef, undef, undef, undef, undef, undef, undef, undef, undef, undef, undef, undef, undef, undef, undef, undef, undef, undef, undef]).toArray, []⟩) (by kernel_rfl) ?_
                              refine wp_if rfl H (fun H => ?_) (fun H => ?_)
                              · refine wp_exit ?_
                                refine then_exit ?_
                                refine then_exit ?_
                                refine block_other rfl ?_
                                refine then_exit ?_
                                refine block_other rfl ?_
                                refine then_exit ?_
                                refine block_other rfl ?_
                                refine then_exit ?_
                                refine block_other rfl ?_
                                refine then_exit ?_
                                refine block_other rfl ?_
                                refine then_exit ?_
                                refine block_other rfl ?_
                                refine then_exit ?_
                                refine then_exit ?_
                                refine block_other rfl ?_
                                refine then_exit ?_
                                refine block_exit ?_
                                refine then_normal ?_
                                refine fr_eq (b := ⟨([x0, x1, x2, undef, x4, (.int .i64 0), x8, x1, x8, x12, x1, x11, x12, x15, x1, x15, x22, x1, x18, x18, (D_3 0), (D_3 1), x22, x29, x1, x25, x25, (D_4 0), (D_4 1), x29, x36, x1, x32, x32, (D_5 0), (D_5 1), x36, x39, x1, x39, x46, x1, x42, x42, (D_6 0), (D_6 1), x46, undef, undef, undef] ++ [undef, undef, undef, undef, undef, undef, undef, undef, undef, undef, undef, undef, undef, undef, undef, undef, undef, undef, undef, undef, undef, undef, undef, undef, undef, undef, undef, undef, undef, undef, undef, undef, undef, undef, undef, undef, undef, undef, undef, undef, undef, undef, undef, undef]).toArray, []⟩) (by kernel_rfl) ?_
                                refine wp_seq ?_
                                refine lwp_list ?_
                                refine ls_assign (x := (.int .i64 8)) (by kernel_rfl) (by kernel_rfl) ?_
                                refine ls_nil ?_
                                refine then_normal ?_
                                refine fr_eq (b := ⟨([x0, x1, x2, undef, x4, (.int .i64 8), x8, x1, x8, x12, x1, x11, x12, x15, x1, x15, x22, x1, x18, x18, (D_3 0), (D_3 1), x22, x29, x1, x25, x25, (D_4 0), (D_4 1), x29, x36, x1, x32, x32, (D_5 0), (D_5 1), x36, x39, x1, x39, x46, x1, x42, x42, (D_6 0), (D_6 1), x46, undef, undef, undef] ++ [undef, undef, undef, undef, undef, undef, undef, undef, undef, undef, undef, undef, undef, undef, undef, undef, undef, undef, undef, undef, undef, undef, undef, undef, undef, undef, undef, undef, undef, undef, undef, undef, undef, undef, undef, undef, undef, undef, undef, undef, undef, undef, undef, undef]).toArray, []⟩) (by kernel_rfl) ?_
                                refine lwp_list ?_
                                refine ls_move (x := x1) (by kernel_rfl) (by kernel_rfl) ?_
                                refine ls_p (d := some 85) (by kernel_rfl) (by kernel_rfl) (p_sub (by kernel_rfl) (by kernel_rfl) H) (fun x85 H => ?_)
                                refine ls_assign (x := x85) (by kernel_rfl) (by kernel_rfl) ?_
                                refine ls_nil ?_
                                refine block_normal ?_
                                exact ⟨(fun i => ([x8, x1, x8, x12, x1, x11, x12, x15, x1, x15, x22, x1, x18, x18, (D_3 0), (D_3 1), x22, x29, x1, x25, x25, (D_4 0), (D_4 1), x29, x36, x1, x32, x32, (D_5 0), (D_5 1), x36, x39, x1, x39, x46, x1, x42, x42, (D_6 0), (D_6 1), x46, undef, undef, undef, undef, undef, undef, undef, undef, undef] ++ [undef, undef, undef, undef, undef, undef, undef, undef, undef, undef, undef, undef, undef, undef, undef, undef, undef, undef, undef, undef, undef, undef, undef, undef, undef, undef, undef, undef, x1, x85]).getD i undef), x85, (.int .i64 8), h_9, by kernel_rfl, HA_21, H⟩
                              · refine wp_skip ?_
                                refine then_normal ?_
                                refine fr_eq (b := ⟨([x0, x1, x2, undef, x4, (.int .i64 0), x8, x1, x8, x12, x1, x11, x12, x15, x1, x15, x22, x1, x18, x18, (D_3 0), (D_3 1), x22, x29, x1, x25, x25, (D_4 0), (D_4 1), x29, x36, x1, x32, x32, (D_5 0), (D_5 1), x36, x39, x1, x39, x46, x1, x42, x42, (D_6 0), (D_6 1), x46, undef, undef, undef] ++ [undef, undef, undef, undef, undef, undef, undef, undef, undef, undef, undef, undef, undef, undef, undef, undef, undef, undef, undef, undef, undef, undef, undef, undef, undef, undef, undef, undef, undef, undef, undef, undef, undef, undef, undef, undef, undef, undef, undef, undef, undef, undef, undef, undef]).toArray, []⟩) (by kernel_rfl) ?_
                                refine wp_seq ?_
                                refine wp_seq ?_
                                refine lwp_list ?_
                                refine ls_move (x := x1) (by kernel_rfl) (by kernel_rfl) ?_
                                refine ls_p (d := some 49) (by kernel_rfl) (by kernel_rfl) (p_sGe (by kernel_rfl) (by kernel_rfl) H) (fun x49 H => ?_)
                                refine ls_move (x := x49) (by kernel_rfl) (by kernel_rfl) ?_
                                refine ls_and [(), (), ()] (fun K a w => ∃ (D_7 : Nat → Value) (x53 : Value), a = ⟨([x0, x1, x2, undef, x4, (.int .i64 0), x8, x1, x8, x12, x1, x11, x12, x15, x1, x15, x22, x1, x18, x18, (D_3 0), (D_3 1), x22, x29, x1, x25, x25, (D_4 0), (D_4 1), x29, x36, x1, x32, x32, (D_5 0), (D_5 1), x36, x39, x1, x39, x46, x1, x42, x42, (D_6 0), (D_6 1), x46, undef, x1, x49] ++ [x49, (D_7 0), (D_7 1), x53, undef, undef, undef, undef, undef, undef, undef, undef, undef, undef, undef, undef, undef, undef, undef, undef, undef, undef, undef, undef, undef, undef, undef, undef, undef, undef, undef, undef, undef, undef, undef, undef, undef, undef, undef, undef, undef, undef, undef, undef]).toArray, []⟩ ∧ At w0 w h_9 ∧ K x53) H (fun hb H => ?_) (fun hb H => ?_) ?_
                                · refine ls_move (x := x1) (by rw [hb]; kernel_rfl) (by kernel_rfl) ?_
                                  refine ls_p (d := some 52) (by kernel_rfl) (by rw [hb]; kernel_rfl) (p_sLe (by kernel_rfl) (by kernel_rfl) H) (fun x52 H => ?_)
                                  refine ls_pick_t (x := x52) (by kernel_rfl) (by rw [hb]; kernel_rfl) (by kernel_rfl) ?_
                                  refine ls_nil ?_
                                  refine then_normal ?_
                                  exact ⟨(fun i => ([x1, x52]).getD i undef), x52, by kernel_rfl, HA_21, H⟩
                                · refine ls_skip (d := some 51) (by kernel_rfl) (by rw [hb]; kernel_rfl) ?_
                                  refine ls_skip (d := some 52) (by kernel_rfl) (by rw [hb]; kernel_rfl) ?_
                                  refine ls_pick_f (y := (.bool false)) (by kernel_rfl) (by rw [hb]; kernel_rfl) (by kernel_rfl) ?_
                                  refine ls_nil ?_
                                  refine then_normal ?_
                                  exact ⟨(fun i => ([undef, undef]).getD i undef), (.bool false), by kernel_rfl, HA_21, H⟩
                                · rintro _ w_22 ⟨D_7, x53, rfl, HA_22, H⟩
                                  refine ls_assign (x := x53) (by kernel_rfl) (by kernel_rfl) ?_
                                  refine ls_nil ?_
                                  refine then_normal ?_
                                  refine fr_eq (b := ⟨([x0, x1, x2, undef, x4, (.int .i64 0), x8, x1, x8, x12, x1, x11, x12, x15, x1, x15, x22, x1, x18, x18, (D_3 0), (D_3 1), x22, x29, x1, x25, x25, (D_4 0), (D_4 1), x29, x36, x1, x32, x32, (D_5 0), (D_5 1), x36, x39, x1, x39, x46, x1, x42, x42, (D_6 0), (D_6 1), x46, x53, x1, x49] ++ [x49, (D_7 0), (D_7 1), x53, undef, undef, undef, undef, undef, undef, undef, undef, undef, undef, undef, undef, undef, undef, undef, undef, undef, undef, undef, undef, undef, undef, undef, undef, undef, undef, undef, undef, undef, undef, undef, undef, undef, undef, undef, undef, undef, undef, undef, undef]).toArray, []⟩) (by kernel_rfl) ?_
                                  refine wp_if rfl H (fun H => ?_) (fun H => ?_)
                                  · refine wp_exit ?_
                                    refine then_exit ?_
                                    refine then_exit ?_
                                    refine block_other rfl ?_
                                    refine then_exit ?_
                                    refine block_other rfl ?_
                                    refine then_exit ?_
                                    refine block_other rfl ?_
                                    refine then_exit ?_
                                    refine block_other rfl ?_
                                    refine then_exit ?_
                                    refine block_other rfl ?_
                                    refine then_exit ?_
                                    refine block_other rfl ?_
                                    refine then_exit ?_
                                    refine then_exit ?_
                                    refine block_other rfl ?_
                                    refine then_exit ?_
                                    refine block_other rfl ?_
                                    refine then_exit ?_
                                    refine block_exit ?_
                                    exact ⟨(fun i => ([x8, x1, x8, x12, x1, x11, x12, x15, x1, x15, x22, x1, x18, x18, (D_3 0), (D_3 1), x22, x29, x1, x25, x25, (D_4 0), (D_4 1), x29, x36, x1, x32, x32, (D_5 0), (D_5 1), x36, x39, x1, x39, x46, x1, x42, x42, (D_6 0), (D_6 1), x46, x53, x1, x49, x49, (D_7 0), (D_7 1), x53, undef, undef] ++ [undef, undef, undef, undef, undef, undef, undef, undef, undef, undef, undef, undef, undef, undef, undef, undef, undef, undef, undef, undef, undef, undef, undef, undef, undef, undef, undef, undef, undef, undef]).getD i undef), x1, (.int .i64 0), h_9, by kernel_rfl, HA_22, H⟩
                                  · refine wp_skip ?_
                                    refine then_normal ?_
                                    refine fr_eq (b := ⟨([x0, x1, x2, undef, x4, (.int .i64 0), x8, x1, x8, x12, x1, x11, x12, x15, x1, x15, x22, x1, x18, x18, (D_3 0), (D_3 1), x22, x29, x1, x25, x25, (D_4 0), (D_4 1), x29, x36, x1, x32, x32, (D_5 0), (D_5 1), x36, x39, x1, x39, x46, x1, x42, x42, (D_6 0), (D_6 1), x46, x53, x1, x49] ++ [x49, (D_7 0), (D_7 1), x53, undef, undef, undef, undef, undef, undef, undef, undef, undef, undef, undef, undef, undef, undef, undef, undef, undef, undef, undef, undef, undef, undef, undef, undef, undef, undef, undef, undef, undef, undef, undef, undef, undef, undef, undef, undef, undef, undef, undef, undef]).toArray, []⟩) (by kernel_rfl) ?_
                                    refine wp_seq ?_
                                    refine lwp_list ?_
                                    refine ls_move (x := x1) (by kernel_rfl) (by kernel_rfl) ?_
                                    refine ls_p (d := some 56) (by kernel_rfl) (by kernel_rfl) (p_sEq (by kernel_rfl) (by kernel_rfl) H) (fun x56 H => ?_)
                                    refine ls_assign (x := x56) (by kernel_rfl) (by kernel_rfl) ?_
                                    refine ls_nil ?_
                                    refine then_normal ?_
                                    refine fr_eq (b := ⟨([x0, x1, x2, undef, x4, (.int .i64 0), x8, x1, x8, x12, x1, x11, x12, x15, x1, x15, x22, x1, x18, x18, (D_3 0), (D_3 1), x22, x29, x1, x25, x25, (D_4 0), (D_4 1), x29, x36, x1, x32, x32, (D_5 0), (D_5 1), x36, x39, x1, x39, x46, x1, x42, x42, (D_6 0), (D_6 1), x46, x53, x1, x49] ++ [x49, (D_7 0), (D_7 1), x53, x56, x1, x56, undef, undef, undef, undef, undef, undef, undef, undef, undef, undef, undef, undef, undef, undef, undef, undef, undef, undef, undef, undef, undef, undef, undef, undef, undef, undef, undef, undef, undef, undef, undef, undef, undef, undef, undef, undef, undef]).toArray, []⟩) (by kernel_rfl) ?_
                                    refine wp_if rfl H (fun H => ?_) (fun H => ?_)
                                    · refine wp_exit ?_
                                      refine then_exit ?_
                                      refine block_other rfl ?_
                                      refine then_exit ?_
                                      refine block_other rfl ?_
                                      refine then_exit ?_
                                      refine block_other rfl ?_
                                      refine then_exit ?_
                                      refine block_other rfl ?_
                                      refine then_exit ?_
                                      refine block_other rfl ?_
                                      refine then_exit ?_
                                      refine block_other rfl ?_
                                      refine then_exit ?_
                                      refine then_exit ?_
                                      refine block_other rfl ?_
                                      refine then_exit ?_
                                      refine block_other rfl ?_
                                      refine then_exit ?_
                                      refine block_other rfl ?_
                                      refine then_exit ?_
                                      refine then_exit ?_
                                      refine block_exit ?_
                                      refine then_normal ?_
                                      refine fr_eq (b := ⟨([x0, x1, x2, undef, x4, (.int .i64 0), x8, x1, x8, x12, x1, x11, x12, x15, x1, x15, x22, x1, x18, x18, (D_3 0), (D_3 1), x22, x29, x1, x25, x25, (D_4 0), (D_4 1), x29, x36, x1, x32, x32, (D_5 0), (D_5 1), x36, x39, x1, x39, x46, x1, x42, x42, (D_6 0), (D_6 1), x46, x53, x1, x49] ++ [x49, (D_7 0), (D_7 1), x53, x56, x1, x56, undef, undef, undef, undef, undef, undef, undef, undef, undef, undef, undef, undef, undef, undef, undef, undef, undef, undef, undef, undef, undef, undef, undef, undef, undef, undef, undef, undef, undef, undef, undef, undef, undef, undef, undef, undef, undef]).toArray, []⟩) (by kernel_rfl) ?_
                                      refine wp_seq ?_
                                      refine lwp_list ?_
                                      refine ls_p (d := some 92) (by kernel_rfl) (by kernel_rfl) (p_off Try.underlying23 rfl (fun w => ⟨_, Try.sizeOf3 w⟩) rfl (by kernel_rfl) H) (fun x92 H => ?_)
                                      refine ls_d (d := none) (by kernel_rfl) (by kernel_rfl) HA_22 (d_st Try.sizeOf3 (by kernel_rfl) (by kernel_rfl) H) (fun _ h_16 w_23 H HA_23 => ?_)
                                      refine ls_nil ?_
                                      refine then_normal ?_
                                      refine fr_eq (b := ⟨([x0, x1, x2, undef, x4, (.int .i64 0), x8, x1, x8, x12, x1, x11, x12, x15, x1, x15, x22, x1, x18, x18, (D_3 0), (D_3 1), x22, x29, x1, x25, x25, (D_4 0), (D_4 1), x29, x36, x1, x32, x32, (D_5 0), (D_5 1), x36, x39, x1, x39, x46, x1, x42, x42, (D_6 0), (D_6 1), x46, x53, x1, x49] ++ [x49, (D_7 0), (D_7 1), x53, x56, x1, x56, undef, undef, undef, undef, undef, undef, undef, undef, undef, undef, undef, undef, undef, undef, undef, undef, undef, undef, undef, undef, undef, undef, undef, undef, undef, undef, undef, undef, undef, undef, undef, undef, undef, undef, undef, x92, undef]).toArray, []⟩) (by kernel_rfl) ?_
                                      refine wp_exit ?_
                                      refine block_exit ?_
                                      exact ⟨(fun i => ([x1, (.int .i64 0), x8, x1, x8, x12, x1, x11, x12, x15, x1, x15, x22, x1, x18, x18, (D_3 0), (D_3 1), x22, x29, x1, x25, x25, (D_4 0), (D_4 1), x29, x36, x1, x32, x32, (D_5 0), (D_5 1), x36, x39, x1, x39, x46, x1, x42, x42, (D_6 0), (D_6 1), x46, x53, x1, x49, x49, (D_7 0), (D_7 1), x53] ++ [x56, x1, x56, undef, undef, undef, undef, undef, undef, undef, undef, undef, undef, undef, undef, undef, undef, undef, undef, undef, undef, undef, undef, undef, undef, undef, undef, undef, undef, undef, undef, undef, undef, undef, undef, undef, undef, undef, x92]).getD i undef), h_16, by kernel_rfl, HA_23, H⟩
                                    · refine wp_skip ?_
                                      refine then_normal ?_
                                      refine fr_eq (b := ⟨([x0, x1, x2, undef, x4, (.int .i64 0), x8, x1, x8, x12, x1, x11, x12, x15, x1, x15, x22, x1, x18, x18, (D_3 0), (D_3 1), x22, x29, x1, x25, x25, (D_4 0), (D_4 1), x29, x36, x1, x32, x32, (D_5 0), (D_5 1), x36, x39, x1, x39, x46, x1, x42, x42, (D_6 0), (D_6 1), x46, x53, x1, x49] ++ [x49, (D_7 0), (D_7 1), x53, x56, x1, x56, undef, undef, undef, undef, undef, undef, undef, undef, undef, undef, undef, undef, undef, undef, undef, undef, undef, undef, undef, undef, undef, undef, undef, undef, undef, undef, undef, undef, undef, undef, undef, undef, undef, undef, undef, undef, undef]).toArray, []⟩) (by kernel_rfl) ?_
                                      refine wp_exit ?_
                                      refine block_other rfl ?_
                                      refine then_exit ?_
                                      refine block_other rfl ?_
                                      refine then_exit ?_
                                      refine block_other rfl ?_
                                      refine then_exit ?_
                                      refine block_other rfl ?_
                                      refine then_exit ?_
                                      refine block_other rfl ?_
                                      refine then_exit ?_
                                      refine block_other rfl ?_
                                      refine then_exit ?_
                                      refine then_exit ?_
                                      refine block_other rfl ?_
                                      refine then_exit ?_
                                      refine block_other rfl ?_
                                      refine then_exit ?_
                                      refine block_other rfl ?_
                                      refine then_exit ?_
                                      refine then_exit ?_
                                      refine block_other rfl ?_
                                      refine then_exit ?_
                                      refine block_exit ?_
                                      exact ⟨(fun i => ([x1, (.int .i64 0), x8, x1, x8, x12, x1, x11, x12, x15, x1, x15, x22, x1, x18, x18, (D_3 0), (D_3 1), x22, x29, x1, x25, x25, (D_4 0), (D_4 1), x29, x36, x1, x32, x32, (D_5 0), (D_5 1), x36, x39, x1, x39, x46, x1, x42, x42, (D_6 0), (D_6 1), x46, x53, x1, x49, x49, (D_7 0), (D_7 1), x53] ++ [x56, x1, x56, undef, undef, undef, undef, undef, undef, undef, undef, undef, undef, undef, undef, undef, undef, undef, undef, undef, undef, undef, undef, undef, undef, undef, undef, undef, undef, undef, undef, undef, undef, undef, undef, undef, undef, undef, undef]).getD i undef), h_9, by kernel_rfl, HA_22, H⟩
      · rintro _ w_6 ⟨D_2, x1_2, x5_1, h_6, rfl, HA_6, H⟩
        unfold pen_one_j3 at H
        refine then_normal ?_
        refine fr_eq (b := ⟨([x0, x1_2, x2, undef, x4, x5_1, (D_2 0), (D_2 1), (D_2 2), (D_2 3), (D_2 4), (D_2 5), (D_2 6), (D_2 7), (D_2 8), (D_2 9), (D_2 10), (D_2 11), (D_2 12), (D_2 13), (D_2 14), (D_2 15), (D_2 16), (D_2 17), (D_2 18), (D_2 19), (D_2 20), (D_2 21), (D_2 22), (D_2 23), (D_2 24), (D_2 25), (D_2 26), (D_2 27), (D_2 28), (D_2 29), (D_2 30), (D_2 31), (D_2 32), (D_2 33), (D_2 34), (D_2 35), (D_2 36), (D_2 37), (D_2 38), (D_2 39), (D_2 40), (D_2 41), (D_2 42), (D_2 43)] ++ [(D_2 44), (D_2 45), (D_2 46), (D_2 47), (D_2 48), (D_2 49), (D_2 50), (D_2 51), (D_2 52), (D_2 53), (D_2 54), (D_2 55), (D_2 56), (D_2 57), (D_2 58), (D_2 59), (D_2 60), (D_2 61), (D_2 62), (D_2 63), (D_2 64), (D_2 65), (D_2 66), (D_2 67), (D_2 68), (D_2 69), (D_2 70), undef, undef, undef, undef, undef, undef, undef, undef, undef, undef, undef, undef, undef, undef, undef, undef, undef]).toArray, []⟩) (by kernel_rfl) ?_
        refine wp_seq ?_
        refine lwp_list ?_
        refine ls_move (x := x5_1) (by kernel_rfl) (by kernel_rfl) ?_
        refine ls_p (d := some 78) (by kernel_rfl) (by kernel_rfl) (p_add (by kernel_rfl) (by kernel_rfl) H) (fun x78 H => ?_)
        refine ls_move (x := x1_2) (by kernel_rfl) (by kernel_rfl) ?_
        refine ls_p (d := some 80) (by kernel_rfl) (by kernel_rfl) (p_add (by kernel_rfl) (by kernel_rfl) H) (fun x80 H => ?_)
        refine ls_p (d := some 81) (by kernel_rfl) (by kernel_rfl) (p_sub (by kernel_rfl) (by kernel_rfl) H) (fun x81 H => ?_)
        refine ls_p (d := some 82) (by kernel_rfl) (by kernel_rfl) (p_off Try.underlying23 rfl (fun w => ⟨_, Try.sizeOf3 w⟩) rfl (by kernel_rfl) H) (fun x82 H => ?_)
        refine ls_fr (b := ⟨([x0, x1_2, x2, undef, x4, x5_1, (D_2 0), (D_2 1), (D_2 2), (D_2 3), (D_2 4), (D_2 5), (D_2 6), (D_2 7), (D_2 8), (D_2 9), (D_2 10), (D_2 11), (D_2 12), (D_2 13), (D_2 14), (D_2 15), (D_2 16), (D_2 17), (D_2 18), (D_2 19), (D_2 20), (D_2 21), (D_2 22), (D_2 23), (D_2 24), (D_2 25), (D_2 26), (D_2 27), (D_2 28), (D_2 29), (D_2 30), (D_2 31), (D_2 32), (D_2 33), (D_2 34), (D_2 35), (D_2 36), (D_2 37), (D_2 38), (D_2 39), (D_2 40), (D_2 41), (D_2 42), (D_2 43)] ++ [(D_2 44), (D_2 45), (D_2 46), (D_2 47), (D_2 48), (D_2 49), (D_2 50), (D_2 51), (D_2 52), (D_2 53), (D_2 54), (D_2 55), (D_2 56), (D_2 57), (D_2 58), (D_2 59), (D_2 60), (D_2 61), (D_2 62), (D_2 63), (D_2 64), (D_2 65), (D_2 66), (D_2 67), (D_2 68), (D_2 69), (D_2 70), x5_1, x78, x1_2, x80, x81, x82, undef, undef, undef, undef, undef, undef, undef, undef, undef, undef, undef]).toArray, []⟩) (by kernel_rfl) ?_
        refine ls_d (d := none) (by kernel_rfl) (by kernel_rfl) HA_6 (d_st Try.sizeOf3 (by kernel_rfl) (by kernel_rfl) H) (fun _ h_7 w_7 H HA_7 => ?_)
        refine ls_nil ?_
        refine then_normal ?_
        refine fr_eq (b := ⟨([x0, x1_2, x2, undef, x4, x5_1, (D_2 0), (D_2 1), (D_2 2), (D_2 3), (D_2 4), (D_2 5), (D_2 6), (D_2 7), (D_2 8), (D_2 9), (D_2 10), (D_2 11), (D_2 12), (D_2 13), (D_2 14), (D_2 15), (D_2 16), (D_2 17), (D_2 18), (D_2 19), (D_2 20), (D_2 21), (D_2 22), (D_2 23), (D_2 24), (D_2 25), (D_2 26), (D_2 27), (D_2 28), (D_2 29), (D_2 30), (D_2 31), (D_2 32), (D_2 33), (D_2 34), (D_2 35), (D_2 36), (D_2 37), (D_2 38), (D_2 39), (D_2 40), (D_2 41), (D_2 42), (D_2 43)] ++ [(D_2 44), (D_2 45), (D_2 46), (D_2 47), (D_2 48), (D_2 49), (D_2 50), (D_2 51), (D_2 52), (D_2 53), (D_2 54), (D_2 55), (D_2 56), (D_2 57), (D_2 58), (D_2 59), (D_2 60), (D_2 61), (D_2 62), (D_2 63), (D_2 64), (D_2 65), (D_2 66), (D_2 67), (D_2 68), (D_2 69), (D_2 70), x5_1, x78, x1_2, x80, x81, x82, undef, undef, undef, undef, undef, undef, undef, undef, undef, undef, undef]).toArray, []⟩) (by kernel_rfl) ?_
        refine wp_exit ?_
        refine block_other rfl ?_
        refine then_exit ?_
        refine block_other rfl ?_
        refine then_exit ?_
        refine block_other rfl ?_
        refine then_exit ?_
        refine then_exit ?_
        refine block_other rfl ?_
        refine then_exit ?_
        refine block_exit ?_
        exact ⟨(fun i => ([x1_2, x5_1, (D_2 0), (D_2 1), (D_2 2), (D_2 3), (D_2 4), (D_2 5), (D_2 6), (D_2 7), (D_2 8), (D_2 9), (D_2 10), (D_2 11), (D_2 12), (D_2 13), (D_2 14), (D_2 15), (D_2 16), (D_2 17), (D_2 18), (D_2 19), (D_2 20), (D_2 21), (D_2 22), (D_2 23), (D_2 24), (D_2 25), (D_2 26), (D_2 27), (D_2 28), (D_2 29), (D_2 30), (D_2 31), (D_2 32), (D_2 33), (D_2 34), (D_2 35), (D_2 36), (D_2 37), (D_2 38), (D_2 39), (D_2 40), (D_2 41), (D_2 42), (D_2 43), (D_2 44), (D_2 45), (D_2 46), (D_2 47)] ++ [(D_2 48), (D_2 49), (D_2 50), (D_2 51), (D_2 52), (D_2 53), (D_2 54), (D_2 55), (D_2 56), (D_2 57), (D_2 58), (D_2 59), (D_2 60), (D_2 61), (D_2 62), (D_2 63), (D_2 64), (D_2 65), (D_2 66), (D_2 67), (D_2 68), (D_2 69), (D_2 70), x5_1, x78, x1_2, x80, x81, x82, undef, undef, undef, undef, undef, undef, undef, undef, undef, undef]).getD i undef), h_7, by kernel_rfl, HA_7, H⟩
    · rintro _ w_4 ⟨D_1, x1_1, x5, h_4, rfl, HA_4, H⟩
      unfold pen_one_j2 at H
      refine then_normal ?_
      refine fr_eq (b := ⟨([x0, x1_1, x2, undef, x4, x5, (D_1 0), (D_1 1), (D_1 2), (D_1 3), (D_1 4), (D_1 5), (D_1 6), (D_1 7), (D_1 8), (D_1 9), (D_1 10), (D_1 11), (D_1 12), (D_1 13), (D_1 14), (D_1 15), (D_1 16), (D_1 17), (D_1 18), (D_1 19), (D_1 20), (D_1 21), (D_1 22), (D_1 23), (D_1 24), (D_1 25), (D_1 26), (D_1 27), (D_1 28), (D_1 29), (D_1 30), (D_1 31), (D_1 32), (D_1 33), (D_1 34), (D_1 35), (D_1 36), (D_1 37), (D_1 38), (D_1 39), (D_1 40), (D_1 41), (D_1 42), (D_1 43)] ++ [(D_1 44), (D_1 45), (D_1 46), (D_1 47), (D_1 48), (D_1 49), (D_1 50), (D_1 51), (D_1 52), (D_1 53), (D_1 54), (D_1 55), (D_1 56), (D_1 57), (D_1 58), (D_1 59), (D_1 60), (D_1 61), (D_1 62), (D_1 63), (D_1 64), (D_1 65), (D_1 66), (D_1 67), (D_1 68), (D_1 69), (D_1 70), (D_1 71), (D_1 72), (D_1 73), (D_1 74), (D_1 75), (D_1 76), (D_1 77), (D_1 78), (D_1 79), undef, undef, undef, undef, undef, undef, undef, undef]).toArray, []⟩) (by kernel_rfl) ?_
      refine wp_seq ?_
      refine lwp_list ?_
      refine ls_move (x := x5) (by kernel_rfl) (by kernel_rfl) ?_
      refine ls_p (d := some 87) (by kernel_rfl) (by kernel_rfl) (p_add (by kernel_rfl) (by kernel_rfl) H) (fun x87 H => ?_)
      refine ls_move (x := x1_1) (by kernel_rfl) (by kernel_rfl) ?_
      refine ls_p (d := some 89) (by kernel_rfl) (by kernel_rfl) (p_add (by kernel_rfl) (by kernel_rfl) H) (fun x89 H => ?_)
      refine ls_p (d := some 90) (by kernel_rfl) (by kernel_rfl) (p_sub (by kernel_rfl) (by kernel_rfl) H) (fun x90 H => ?_)
      refine ls_p (d := some 91) (by kernel_rfl) (by kernel_rfl) (p_off Try.underlying23 rfl (fun w => ⟨_, Try.sizeOf3 w⟩) rfl (by kernel_rfl) H) (fun x91 H => ?_)
      refine ls_fr (b := ⟨([x0, x1_1, x2, undef, x4, x5, (D_1 0), (D_1 1), (D_1 2), (D_1 3), (D_1 4), (D_1 5), (D_1 6), (D_1 7), (D_1 8), (D_1 9), (D_1 10), (D_1 11), (D_1 12), (D_1 13), (D_1 14), (D_1 15), (D_1 16), (D_1 17), (D_1 18), (D_1 19), (D_1 20), (D_1 21), (D_1 22), (D_1 23), (D_1 24), (D_1 25), (D_1 26), (D_1 27), (D_1 28), (D_1 29), (D_1 30), (D_1 31), (D_1 32), (D_1 33), (D_1 34), (D_1 35), (D_1 36), (D_1 37), (D_1 38), (D_1 39), (D_1 40), (D_1 41), (D_1 42), (D_1 43)] ++ [(D_1 44), (D_1 45), (D_1 46), (D_1 47), (D_1 48), (D_1 49), (D_1 50), (D_1 51), (D_1 52), (D_1 53), (D_1 54), (D_1 55), (D_1 56), (D_1 57), (D_1 58), (D_1 59), (D_1 60), (D_1 61), (D_1 62), (D_1 63), (D_1 64), (D_1 65), (D_1 66), (D_1 67), (D_1 68), (D_1 69), (D_1 70), (D_1 71), (D_1 72), (D_1 73), (D_1 74), (D_1 75), (D_1 76), (D_1 77), (D_1 78), (D_1 79), x5, x87, x1_1, x89, x90, x91, undef, undef]).toArray, []⟩) (by kernel_rfl) ?_
      refine ls_d (d := none) (by kernel_rfl) (by kernel_rfl) HA_4 (d_st Try.sizeOf3 (by kernel_rfl) (by kernel_rfl) H) (fun _ h_5 w_5 H HA_5 => ?_)
      refine ls_nil ?_
      refine then_normal ?_
      refine fr_eq (b := ⟨([x0, x1_1, x2, undef, x4, x5, (D_1 0), (D_1 1), (D_1 2), (D_1 3), (D_1 4), (D_1 5), (D_1 6), (D_1 7), (D_1 8), (D_1 9), (D_1 10), (D_1 11), (D_1 12), (D_1 13), (D_1 14), (D_1 15), (D_1 16), (D_1 17), (D_1 18), (D_1 19), (D_1 20), (D_1 21), (D_1 22), (D_1 23), (D_1 24), (D_1 25), (D_1 26), (D_1 27), (D_1 28), (D_1 29), (D_1 30), (D_1 31), (D_1 32), (D_1 33), (D_1 34), (D_1 35), (D_1 36), (D_1 37), (D_1 38), (D_1 39), (D_1 40), (D_1 41), (D_1 42), (D_1 43)] ++ [(D_1 44), (D_1 45), (D_1 46), (D_1 47), (D_1 48), (D_1 49), (D_1 50), (D_1 51), (D_1 52), (D_1 53), (D_1 54), (D_1 55), (D_1 56), (D_1 57), (D_1 58), (D_1 59), (D_1 60), (D_1 61), (D_1 62), (D_1 63), (D_1 64), (D_1 65), (D_1 66), (D_1 67), (D_1 68), (D_1 69), (D_1 70), (D_1 71), (D_1 72), (D_1 73), (D_1 74), (D_1 75), (D_1 76), (D_1 77), (D_1 78), (D_1 79), x5, x87, x1_1, x89, x90, x91, undef, undef]).toArray, []⟩) (by kernel_rfl) ?_
      refine wp_exit ?_
      refine block_other rfl ?_
      refine then_exit ?_
      refine block_exit ?_
      exact ⟨(fun i => ([x1_1, x5, (D_1 0), (D_1 1), (D_1 2), (D_1 3), (D_1 4), (D_1 5), (D_1 6), (D_1 7), (D_1 8), (D_1 9), (D_1 10), (D_1 11), (D_1 12), (D_1 13), (D_1 14), (D_1 15), (D_1 16), (D_1 17), (D_1 18), (D_1 19), (D_1 20), (D_1 21), (D_1 22), (D_1 23), (D_1 24), (D_1 25), (D_1 26), (D_1 27), (D_1 28), (D_1 29), (D_1 30), (D_1 31), (D_1 32), (D_1 33), (D_1 34), (D_1 35), (D_1 36), (D_1 37), (D_1 38), (D_1 39), (D_1 40), (D_1 41), (D_1 42), (D_1 43), (D_1 44), (D_1 45), (D_1 46), (D_1 47)] ++ [(D_1 48), (D_1 49), (D_1 50), (D_1 51), (D_1 52), (D_1 53), (D_1 54), (D_1 55), (D_1 56), (D_1 57), (D_1 58), (D_1 59), (D_1 60), (D_1 61), (D_1 62), (D_1 63), (D_1 64), (D_1 65), (D_1 66), (D_1 67), (D_1 68), (D_1 69), (D_1 70), (D_1 71), (D_1 72), (D_1 73), (D_1 74), (D_1 75), (D_1 76), (D_1 77), (D_1 78), (D_1 79), x5, x87, x1_1, x89, x90, x91, undef]).getD i undef), h_5, by kernel_rfl, HA_5, H⟩
  · rintro _ w_2 ⟨D, h_2, rfl, HA_2, H⟩
    unfold pen_one_j1 at H
    refine then_normal ?_
    refine fr_eq (b := ⟨([x0, (D 0), x2, undef, x4, (D 1), (D 2), (D 3), (D 4), (D 5), (D 6), (D 7), (D 8), (D 9), (D 10), (D 11), (D 12), (D 13), (D 14), (D 15), (D 16), (D 17), (D 18), (D 19), (D 20), (D 21), (D 22), (D 23), (D 24), (D 25), (D 26), (D 27), (D 28), (D 29), (D 30), (D 31), (D 32), (D 33), (D 34), (D 35), (D 36), (D 37), (D 38), (D 39), (D 40), (D 41), (D 42), (D 43), (D 44), (D 45)] ++ [(D 46), (D 47), (D 48), (D 49), (D 50), (D 51), (D 52), (D 53), (D 54), (D 55), (D 56), (D 57), (D 58), (D 59), (D 60), (D 61), (D 62), (D 63), (D 64), (D 65), (D 66), (D 67), (D 68), (D 69), (D 70), (D 71), (D 72), (D 73), (D 74), (D 75), (D 76), (D 77), (D 78), (D 79), (D 80), (D 81), (D 82), (D 83), (D 84), (D 85), (D 86), (D 87), (D 88), undef]).toArray, []⟩) (by kernel_rfl) ?_
    refine wp_seq ?_
    refine lwp_list ?_
    refine ls_y (d := some 93) (by kernel_rfl) (by kernel_rfl) HA_2 (y_ldn Try.isAgg23 Try.sizeOf23 (by kernel_rfl) H) (fun x93 H => ?_)
    refine ls_d (d := none) (by kernel_rfl) (by kernel_rfl) HA_2 (d_stn Try.sizeOf23 (by kernel_rfl) (by kernel_rfl) H) (fun _ h_3 w_3 H HA_3 => ?_)
    refine ls_nil ?_
    refine then_normal ?_
    refine fr_eq (b := ⟨([x0, (D 0), x2, undef, x4, (D 1), (D 2), (D 3), (D 4), (D 5), (D 6), (D 7), (D 8), (D 9), (D 10), (D 11), (D 12), (D 13), (D 14), (D 15), (D 16), (D 17), (D 18), (D 19), (D 20), (D 21), (D 22), (D 23), (D 24), (D 25), (D 26), (D 27), (D 28), (D 29), (D 30), (D 31), (D 32), (D 33), (D 34), (D 35), (D 36), (D 37), (D 38), (D 39), (D 40), (D 41), (D 42), (D 43), (D 44), (D 45)] ++ [(D 46), (D 47), (D 48), (D 49), (D 50), (D 51), (D 52), (D 53), (D 54), (D 55), (D 56), (D 57), (D 58), (D 59), (D 60), (D 61), (D 62), (D 63), (D 64), (D 65), (D 66), (D 67), (D 68), (D 69), (D 70), (D 71), (D 72), (D 73), (D 74), (D 75), (D 76), (D 77), (D 78), (D 79), (D 80), (D 81), (D 82), (D 83), (D 84), (D 85), (D 86), (D 87), (D 88), x93]).toArray, []⟩) (by kernel_rfl) ?_
    refine wp_ret ?_
    obtain ⟨r4, hr4, H⟩ := ld_n Try.isAgg23 Try.sizeOf23 H
    exact endR (vs := [r4]) (Try.results50) (by kernel_rfl) ⟨⟨_, (by kernel_rfl), hr4⟩, trivial⟩ HA_3 H _ (.inr rfl)

end Go.Proofs.Ytkagmlpnidijaaa
