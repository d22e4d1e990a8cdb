/- The shallow reading of one function, and that the function does it. Written by a program. -/
import Derived.Test.YtjlpgakoedigoaaDoorFnC
set_option linter.unusedVariables false
namespace Go.Proofs.YtjlpgakoedigoaaDoor
open Go Go.HW

def betonylaw26_BackRing_l2 (R : Value → Heap → Prop) (x1 x14 : Value) (next : Value → Heap → Prop) (x8 : Value) (h_6 : Heap) : Prop :=
  back_Back_Len_c x14 h_6 fun x49 h_7 => 
  sLt x8 x49 fun x50 =>
  sIf x50 (back_Back_Row_c x14 x8 h_7 fun x55 h_8 => 
  sLen x55 fun x57 =>
  sNe x57 (.int .i64 1) fun x58 =>
  sOr x58 (fun k =>
  sIxS x55 (.int .i64 0) 4 fun x61 =>
  sOff x61 0 fun x62 =>
  sLd h_8 x62 fun x63 =>
  sConv .i64 x1 fun x65 =>
  sAdd .i64 (.int .i64 1000) x65 fun x66 =>
  sSub .i64 x66 (.int .i64 1) fun x67 =>
  sSub .i64 x67 x8 fun x69 =>
  sConv .i32 x69 fun x70 =>
  sNe x63 x70 fun x71 =>
  k x71) fun x72 =>
  sIf x72 (R (.bool false) h_8) (sAdd .i64 x8 (.int .i64 1) fun x52 =>
  next x52 h_8)) (betonylaw26_awake_c  h_7 fun x73 h_9 => 
  R x73 h_9)
def betonylaw26_BackRing_l1 (R : Value → Heap → Prop) (x1 x12 x14 : Value) (next : Value → Heap → Prop) (x7 : Value) (h_1 : Heap) : Prop :=
  sConv .i64 x1 fun x19 =>
  sLt x7 x19 fun x20 =>
  sIf x20 (sAdd .i64 (.int .i64 1000) x7 fun x25 =>
  sConv .i32 x25 fun x26 =>
  sBuild #[.int .i32 0, .int .i64 0, .int .i64 0, .int .i64 0] [(0, 1, x26)] fun x27 =>
  sSlit h_1 #[.int .i32 0, .int .i64 0, .int .i64 0, .int .i64 0] [(0, 4, x27)] 32 1 fun x28 h_2 => 
  back_Back_Push_c x14 x28 h_2 fun x29 h_3 => 
  sAdd .i64 x7 (.int .i64 1) fun x22 =>
  next x22 h_3) (back_Back_Len_c x14 h_1 fun x31 h_4 => 
  sConv .i64 x1 fun x34 =>
  sMin x12 x34 fun x35 =>
  sNe x31 x35 fun x36 =>
  sOrH x36 h_4 (fun k_1 =>
  back_Back_Lost_c x14 h_4 fun x39 h_10 => 
  sConv .i64 x1 fun x41 =>
  back_Back_Len_c x14 h_10 fun x43 h_11 => 
  sSub .i64 x41 x43 fun x44 =>
  sNe x39 x44 fun x45 =>
  k_1 x45 h_11) fun x46 h_5 =>
  sIf x46 (R (.bool false) h_5) (sLoop (S := Value) (fun nxt s h => betonylaw26_BackRing_l2 R x1 x14 (fun x8' h => nxt x8' h) s h) (.int .i64 0) h_5))
def betonylaw26_BackRing_S (x0 x1 : Value) (h : Heap) (R : Value → Heap → Prop) : Prop :=
  sConv .i64 x0 fun x11 =>
  sRem .i64 x11 (.int .i64 50) fun x12 =>
  back_New_c x12 h fun x14 h => 
  sEqlNil x14 fun x16 =>
  sIf x16 (R (.bool false) h) (sLoop (S := Value) (fun nxt s h => betonylaw26_BackRing_l1 R x1 x12 x14 (fun x7' h => nxt x7' h) s h) (.int .i64 0) h)
set_option maxRecDepth 100000 in
theorem betonylaw26_BackRing_runs {x0 x1 : Value} {h : Heap} {R : Value → Heap → Prop} (H : betonylaw26_BackRing_S x0 x1 h R) : betonylaw26_BackRing_c x0 x1 h R := by
  unfold betonylaw26_BackRing_S at H
  refine runs_of (b := ⟨([x0, x1, undef, undef, undef, undef, undef, undef, undef, undef, undef, undef, undef, undef, undef, undef, undef, undef, undef, undef, undef, undef, undef, undef, undef, undef, undef, undef, undef, undef, undef, undef, undef, undef, undef, undef, undef, undef, undef, undef, undef, undef, undef, undef, undef, undef, undef, undef, undef, undef] ++ [undef, undef, undef, undef, undef, undef, undef, undef, undef, undef, undef, undef, undef, undef, undef, undef, undef, undef, undef, undef, undef, undef, undef, undef]).toArray, []⟩) Tryd.call4 Tryd.func4 rfl (by kernel_rfl) (fun w0 HA => ?_)
  refine wp_seq ?_
  refine lwp_list ?_
  refine ls_assign (x := (.bool false)) (by kernel_rfl) (by kernel_rfl) ?_
  refine ls_nil ?_
  refine then_normal ?_
  refine fr_eq (b := ⟨([x0, x1, undef, undef, (.bool false), undef, undef, undef, undef, undef, undef, undef, undef, undef, undef, undef, undef, undef, undef, undef, undef, undef, undef, undef, undef, undef, undef, undef, undef, undef, undef, undef, undef, undef, undef, undef, undef, undef, undef, undef, undef, undef, undef, undef, undef, undef, undef, undef, undef, undef] ++ [undef, undef, undef, undef, undef, undef, undef, undef, undef, undef, undef, undef, undef, undef, undef, undef, undef, undef, undef, undef, undef, undef, undef, undef]).toArray, []⟩) (by kernel_rfl) ?_
  refine wp_seq ?_
  refine lwp_list ?_
  refine ls_move (x := x0) (by kernel_rfl) (by kernel_rfl) ?_
  refine ls_p (d := some 11) (by kernel_rfl) (by kernel_rfl) (p_conv Tryd.underlying5 Tryd.underlying3 (by kernel_rfl) H) (fun x11 H => ?_)
  refine ls_p (d := some 12) (by kernel_rfl) (by kernel_rfl) (p_rem (by kernel_rfl) (by kernel_rfl) H) (fun x12 H => ?_)
  refine ls_assign (x := x12) (by kernel_rfl) (by kernel_rfl) ?_
  refine ls_nil ?_
  refine then_normal ?_
  refine fr_eq (b := ⟨([x0, x1, undef, undef, (.bool false), x12, undef, undef, undef, undef, x0, x11, x12, undef, undef, undef, undef, undef, undef, undef, undef, undef, undef, undef, undef, undef, undef, undef, undef, undef, undef, undef, undef, undef, undef, undef, undef, undef, undef, undef, undef, undef, undef, undef, undef, undef, undef, undef, undef, undef] ++ [undef, undef, undef, undef, undef, undef, undef, undef, undef, undef, undef, undef, undef, undef, undef, undef, undef, undef, undef, undef, undef, undef, undef, undef]).toArray, []⟩) (by kernel_rfl) ?_
  refine wp_seq ?_
  refine lwp_list ?_
  refine ls_move (x := x12) (by kernel_rfl) (by kernel_rfl) ?_
  refine ls_d (d := some 14) (by kernel_rfl) (by kernel_rfl) HA (d_call (by kernel_rfl) (by kernel_rfl) H) (fun x14 h w H HA => ?_)
  refine ls_assign (x := x14) (by kernel_rfl) (by kernel_rfl) ?_
  refine ls_nil ?_
  refine then_normal ?_
  refine fr_eq (b := ⟨([x0, x1, undef, undef, (.bool false), x12, x14, undef, undef, undef, x0, x11, x12, x12, x14, undef, undef, undef, undef, undef, undef, undef, undef, undef, undef, undef, undef, undef, undef, undef, undef, undef, undef, undef, undef, undef, undef, undef, undef, undef, undef, undef, undef, undef, undef, undef, undef, undef, undef, undef] ++ [undef, undef, undef, undef, undef, undef, undef, undef, undef, undef, undef, undef, undef, undef, undef, undef, undef, undef, undef, undef, undef, undef, undef, undef]).toArray, []⟩) (by kernel_rfl) ?_
  refine wp_seq ?_
  refine wp_seq ?_
  refine lwp_list ?_
  refine ls_move (x := x14) (by kernel_rfl) (by kernel_rfl) ?_
  refine ls_p (d := some 16) (by kernel_rfl) (by kernel_rfl) (p_eqlNil Tryd.underlying26 (by kernel_rfl) (by kernel_rfl) H) (fun x16 H => ?_)
  refine ls_nil ?_
  refine then_normal ?_
  refine fr_eq (b := ⟨([x0, x1, undef, undef, (.bool false), x12, x14, undef, undef, undef, x0, x11, x12, x12, x14, x14, x16, undef, undef, undef, undef, undef, undef, undef, undef, undef, undef, undef, undef, undef, undef, undef, undef, undef, undef, undef, undef, undef, undef, undef, undef, undef, undef, undef, undef, undef, undef, undef, undef, undef] ++ [undef, undef, undef, undef, undef, undef, undef, undef, undef, undef, undef, undef, undef, undef, undef, undef, undef, undef, undef, undef, undef, undef, undef, undef]).toArray, []⟩) (by kernel_rfl) ?_
  refine wp_if rfl H (fun H => ?_) (fun H => ?_)
  · refine wp_seq ?_
    refine lwp_list ?_
    refine ls_assign (x := (.bool false)) (by kernel_rfl) (by kernel_rfl) ?_
    refine ls_nil ?_
    refine then_normal ?_
    refine fr_eq (b := ⟨([x0, x1, undef, undef, (.bool false), x12, x14, undef, undef, undef, x0, x11, x12, x12, x14, x14, x16, undef, undef, undef, undef, undef, undef, undef, undef, undef, undef, undef, undef, undef, undef, undef, undef, undef, undef, undef, undef, undef, undef, undef, undef, undef, undef, undef, undef, undef, undef, undef, undef, undef] ++ [undef, undef, undef, undef, undef, undef, undef, undef, undef, undef, undef, undef, undef, undef, undef, undef, undef, undef, undef, undef, undef, undef, undef, undef]).toArray, []⟩) (by kernel_rfl) ?_
    refine wp_ret ?_
    refine then_ret ?_
    exact end1 (Tryd.results4) (by kernel_rfl) (by kernel_rfl) HA H _ (.inr rfl)
  · refine wp_skip ?_
    refine then_normal ?_
    refine fr_eq (b := ⟨([x0, x1, undef, undef, (.bool false), x12, x14, undef, undef, undef, x0, x11, x12, x12, x14, x14, x16, undef, undef, undef, undef, undef, undef, undef, undef, undef, undef, undef, undef, undef, undef, undef, undef, undef, undef, undef, undef, undef, undef, undef, undef, undef, undef, undef, undef, undef, undef, undef, undef, undef] ++ [undef, undef, undef, undef, undef, undef, undef, undef, undef, undef, undef, undef, undef, undef, undef, undef, undef, undef, undef, undef, undef, undef, undef, undef]).toArray, []⟩) (by kernel_rfl) ?_
    refine wp_seq ?_
    refine wp_seq ?_
    refine lwp_list ?_
    refine ls_assign (x := (.int .i64 0)) (by kernel_rfl) (by kernel_rfl) ?_
    refine ls_nil ?_
    refine then_normal ?_
    refine fr_eq (b := ⟨([x0, x1, undef, undef, (.bool false), x12, x14, (.int .i64 0), undef, undef, x0, x11, x12, x12, x14, x14, x16, undef, undef, undef, undef, undef, undef, undef, undef, undef, undef, undef, undef, undef, undef, undef, undef, undef, undef, undef, undef, undef, undef, undef, undef, undef, undef, undef, undef, undef, undef, undef, undef, undef] ++ [undef, undef, undef, undef, undef, undef, undef, undef, undef, undef, undef, undef, undef, undef, undef, undef, undef, undef, undef, undef, undef, undef, undef, undef]).toArray, []⟩) (by kernel_rfl) ?_
    refine wp_block ?_
    obtain ⟨I, m, H0, HB⟩ := H
    refine wp_loop (fun a w => ∃ (D : Nat → Value) (x7 : Value) (h_1 : Heap), a = ⟨([x0, x1, undef, undef, (.bool false), x12, x14, x7, undef, undef, x0, x11, x12, x12, x14, x14, x16, (D 0), (D 1), (D 2), (D 3), (D 4), (D 5), (D 6), (D 7), (D 8), (D 9), (D 10), (D 11), (D 12), undef, undef, undef, undef, undef, undef, undef, undef, undef, undef, undef, undef, undef, undef, undef, undef, undef, undef, undef, undef] ++ [undef, undef, undef, undef, undef, undef, undef, undef, undef, undef, undef, undef, undef, undef, undef, undef, undef, undef, undef, undef, undef, undef, undef, undef]).toArray, []⟩ ∧ At w0 w h_1 ∧ I x7 h_1) (fun a w => m (a.tmps.getD 7 undef) w.heap) ?_ ?_
    · exact ⟨(fun i => ([undef, undef, undef, undef, undef, undef, undef, undef, undef, undef, undef, undef, undef]).getD i undef), (.int .i64 0), h, by kernel_rfl, HA, H0⟩
    · rintro _ w_1 ⟨D, x7, h_1, rfl, HA_1, HI⟩
      have H : betonylaw26_BackRing_l1 R x1 x12 x14 (fun x7' h' => I x7' h' ∧ m x7' h' < m x7 h_1) x7 h_1 := HB x7 h_1 HI
      clear HB H0 HI
      unfold betonylaw26_BackRing_l1 at H
      refine wp_seq ?_
      refine wp_seq ?_
      refine lwp_list ?_
      refine ls_move (x := x7) (by kernel_rfl) (by kernel_rfl) ?_
      refine ls_move (x := x1) (by kernel_rfl) (by kernel_rfl) ?_
      refine ls_p (d := some 19) (by kernel_rfl) (by kernel_rfl) (p_conv Tryd.underlying5 Tryd.underlying3 (by kernel_rfl) H) (fun x19 H => ?_)
      refine ls_p (d := some 20) (by kernel_rfl) (by kernel_rfl) (p_sLt (by kernel_rfl) (by kernel_rfl) H) (fun x20 H => ?_)
      refine ls_nil ?_
      refine then_normal ?_
      refine fr_eq (b := ⟨([x0, x1, undef, undef, (.bool false), x12, x14, x7, undef, undef, x0, x11, x12, x12, x14, x14, x16, x7, x1, x19, x20, (D 4), (D 5), (D 6), (D 7), (D 8), (D 9), (D 10), (D 11), (D 12), undef, undef, undef, undef, undef, undef, undef, undef, undef, undef, undef, undef, undef, undef, undef, undef, undef, undef, undef, undef] ++ [undef, undef, undef, undef, undef, undef, undef, undef, undef, undef, undef, undef, undef, undef, undef, undef, undef, undef, undef, undef, undef, undef, undef, undef]).toArray, []⟩) (by kernel_rfl) ?_
      refine wp_if rfl H (fun H => ?_) (fun H => ?_)
      · refine wp_skip ?_
        refine then_normal ?_
        refine fr_eq (b := ⟨([x0, x1, undef, undef, (.bool false), x12, x14, x7, undef, undef, x0, x11, x12, x12, x14, x14, x16, x7, x1, x19, x20, (D 4), (D 5), (D 6), (D 7), (D 8), (D 9), (D 10), (D 11), (D 12), undef, undef, undef, undef, undef, undef, undef, undef, undef, undef, undef, undef, undef, undef, undef, undef, undef, undef, undef, undef] ++ [undef, undef, undef, undef, undef, undef, undef, undef, undef, undef, undef, undef, undef, undef, undef, undef, undef, undef, undef, undef, undef, undef, undef, undef]).toArray, []⟩) (by kernel_rfl) ?_
        refine wp_seq ?_
        refine wp_block ?_
        refine lwp_list ?_
        refine ls_move (x := x14) (by kernel_rfl) (by kernel_rfl) ?_
        refine ls_move (x := x7) (by kernel_rfl) (by kernel_rfl) ?_
        refine ls_p (d := some 25) (by kernel_rfl) (by kernel_rfl) (p_add (by kernel_rfl) (by kernel_rfl) H) (fun x25 H => ?_)
        refine ls_p (d := some 26) (by kernel_rfl) (by kernel_rfl) (p_conv Tryd.underlying3 Tryd.underlying21 (by kernel_rfl) H) (fun x26 H => ?_)
        refine ls_p (d := some 27) (by kernel_rfl) (by kernel_rfl) (p_lit (pl := [(0, 1), (1, 3)]) Tryd.zeroValue32 Tryd.underlying32 ⟨(by kernel_rfl), Tryd.sizeOf21, (by kernel_rfl), Tryd.sizeOf30, trivial⟩ (by kernel_rfl) (by kernel_rfl) H) (fun x27 H => ?_)
        refine ls_d (d := some 28) (by kernel_rfl) (by kernel_rfl) HA_1 (d_slit (zc := #[.int .i32 0, .int .i64 0, .int .i64 0, .int .i64 0]) Tryd.underlying22 Tryd.sizeOf32 (by decide) (.inr ⟨by decide, _, Tryd.zeroValue32, (by kernel_rfl)⟩) (by kernel_rfl) (by kernel_rfl) H) (fun x28 h_2 w_2 H HA_2 => ?_)
        refine ls_fr (b := ⟨([x0, x1, undef, undef, (.bool false), x12, x14, x7, undef, undef, x0, x11, x12, x12, x14, x14, x16, x7, x1, x19, x20, (D 4), (D 5), x14, x7, x25, x26, x27, x28, (D 12), undef, undef, undef, undef, undef, undef, undef, undef, undef, undef, undef, undef, undef, undef, undef, undef, undef, undef, undef, undef] ++ [undef, undef, undef, undef, undef, undef, undef, undef, undef, undef, undef, undef, undef, undef, undef, undef, undef, undef, undef, undef, undef, undef, undef, undef]).toArray, []⟩) (by kernel_rfl) ?_
        refine ls_d (d := some 29) (by kernel_rfl) (by kernel_rfl) HA_2 (d_call (by kernel_rfl) (by kernel_rfl) H) (fun x29 h_3 w_3 H HA_3 => ?_)
        refine ls_nil ?_
        refine block_normal ?_
        refine then_normal ?_
        refine fr_eq (b := ⟨([x0, x1, undef, undef, (.bool false), x12, x14, x7, undef, undef, x0, x11, x12, x12, x14, x14, x16, x7, x1, x19, x20, (D 4), (D 5), x14, x7, x25, x26, x27, x28, x29, undef, undef, undef, undef, undef, undef, undef, undef, undef, undef, undef, undef, undef, undef, undef, undef, undef, undef, undef, undef] ++ [undef, undef, undef, undef, undef, undef, undef, undef, undef, undef, undef, undef, undef, undef, undef, undef, undef, undef, undef, undef, undef, undef, undef, undef]).toArray, []⟩) (by kernel_rfl) ?_
        refine lwp_list ?_
        refine ls_move (x := x7) (by kernel_rfl) (by kernel_rfl) ?_
        refine ls_p (d := some 22) (by kernel_rfl) (by kernel_rfl) (p_add (by kernel_rfl) (by kernel_rfl) H) (fun x22 H => ?_)
        refine ls_assign (x := x22) (by kernel_rfl) (by kernel_rfl) ?_
        refine ls_nil ?_
        exact ⟨⟨(fun i => ([x7, x1, x19, x20, x7, x22, x14, x7, x25, x26, x27, x28, x29]).getD i undef), x22, h_3, by kernel_rfl, HA_3, H.1⟩, loop_lt HA_3.heap HA_1.heap (by kernel_rfl) (by kernel_rfl) H.2⟩
      · refine wp_exit ?_
        refine then_exit ?_
        refine then_exit ?_
        refine block_exit ?_
        refine then_normal ?_
        refine fr_eq (b := ⟨([x0, x1, undef, undef, (.bool false), x12, x14, x7, undef, undef, x0, x11, x12, x12, x14, x14, x16, x7, x1, x19, x20, (D 4), (D 5), (D 6), (D 7), (D 8), (D 9), (D 10), (D 11), (D 12), undef, undef, undef, undef, undef, undef, undef, undef, undef, undef, undef, undef, undef, undef, undef, undef, undef, undef, undef, undef] ++ [undef, undef, undef, undef, undef, undef, undef, undef, undef, undef, undef, undef, undef, undef, undef, undef, undef, undef, undef, undef, undef, undef, undef, undef]).toArray, []⟩) (by kernel_rfl) ?_
        refine wp_seq ?_
        refine wp_seq ?_
        refine lwp_list ?_
        refine ls_move (x := x14) (by kernel_rfl) (by kernel_rfl) ?_
        refine ls_d (d := some 31) (by kernel_rfl) (by kernel_rfl) HA_1 (d_call (by kernel_rfl) (by kernel_rfl) H) (fun x31 h_4 w_4 H HA_4 => ?_)
        refine ls_move (x := x12) (by kernel_rfl) (by kernel_rfl) ?_
        refine ls_move (x := x1) (by kernel_rfl) (by kernel_rfl) ?_
        refine ls_p (d := some 34) (by kernel_rfl) (by kernel_rfl) (p_conv Tryd.underlying5 Tryd.underlying3 (by kernel_rfl) H) (fun x34 H => ?_)
        refine ls_p (d := some 35) (by kernel_rfl) (by kernel_rfl) (p_min (by kernel_rfl) (by kernel_rfl) H) (fun x35 H => ?_)
        refine ls_fr (b := ⟨([x0, x1, undef, undef, (.bool false), x12, x14, x7, undef, undef, x0, x11, x12, x12, x14, x14, x16, x7, x1, x19, x20, (D 4), (D 5), (D 6), (D 7), (D 8), (D 9), (D 10), (D 11), (D 12), x14, x31, x12, x1, x34, x35, undef, undef, undef, undef, undef, undef, undef, undef, undef, undef, undef, undef, undef, undef] ++ [undef, undef, undef, undef, undef, undef, undef, undef, undef, undef, undef, undef, undef, undef, undef, undef, undef, undef, undef, undef, undef, undef, undef, undef]).toArray, []⟩) (by kernel_rfl) ?_
        refine ls_p (d := some 36) (by kernel_rfl) (by kernel_rfl) (p_sNe (by kernel_rfl) (by kernel_rfl) H) (fun x36 H => ?_)
        refine ls_move (x := x36) (by kernel_rfl) (by kernel_rfl) ?_
        refine ls_orh [(), (), (), (), (), (), (), (), ()] (fun K a w => ∃ (D_1 : Nat → Value) (x46 : Value) (h_5 : Heap), a = ⟨([x0, x1, undef, undef, (.bool false), x12, x14, x7, undef, undef, x0, x11, x12, x12, x14, x14, x16, x7, x1, x19, x20, (D 4), (D 5), (D 6), (D 7), (D 8), (D 9), (D 10), (D 11), (D 12), x14, x31, x12, x1, x34, x35, x36, x36, (D_1 0), (D_1 1), (D_1 2), (D_1 3), (D_1 4), (D_1 5), (D_1 6), (D_1 7), x46, undef, undef, undef] ++ [undef, undef, undef, undef, undef, undef, undef, undef, undef, undef, undef, undef, undef, undef, undef, undef, undef, undef, undef, undef, undef, undef, undef, undef]).toArray, []⟩ ∧ At w0 w h_5 ∧ K x46 h_5) H (fun hb_1 H => ?_) (fun hb_1 H => ?_) ?_
        · refine ls_move (x := x14) (by rw [hb_1]; kernel_rfl) (by kernel_rfl) ?_
          refine ls_d (d := some 39) (by kernel_rfl) (by rw [hb_1]; kernel_rfl) HA_4 (d_call (by kernel_rfl) (by kernel_rfl) H) (fun x39 h_10 w_11 H HA_11 => ?_)
          refine ls_move (x := x1) (by rw [hb_1]; kernel_rfl) (by kernel_rfl) ?_
          refine ls_p (d := some 41) (by kernel_rfl) (by rw [hb_1]; kernel_rfl) (p_conv Tryd.underlying5 Tryd.underlying3 (by kernel_rfl) H) (fun x41 H => ?_)
          refine ls_fr (b := ⟨([x0, x1, undef, undef, (.bool false), x12, x14, x7, undef, undef, x0, x11, x12, x12, x14, x14, x16, x7, x1, x19, x20, (D 4), (D 5), (D 6), (D 7), (D 8), (D 9), (D 10), (D 11), (D 12), x14, x31, x12, x1, x34, x35, x36, x36, x14, x39, x1, x41, undef, undef, undef, undef, undef, undef, undef, undef] ++ [undef, undef, undef, undef, undef, undef, undef, undef, undef, undef, undef, undef, undef, undef, undef, undef, undef, undef, undef, undef, undef, undef, undef, undef]).toArray, []⟩) (by kernel_rfl) ?_
          refine ls_move (x := x14) (by rw [hb_1]; kernel_rfl) (by kernel_rfl) ?_
          refine ls_d (d := some 43) (by kernel_rfl) (by rw [hb_1]; kernel_rfl) HA_11 (d_call (by kernel_rfl) (by kernel_rfl) H) (fun x43 h_11 w_12 H HA_12 => ?_)
          refine ls_p (d := some 44) (by kernel_rfl) (by rw [hb_1]; kernel_rfl) (p_sub (by kernel_rfl) (by kernel_rfl) H) (fun x44 H => ?_)
          refine ls_p (d := some 45) (by kernel_rfl) (by rw [hb_1]; kernel_rfl) (p_sNe (by kernel_rfl) (by kernel_rfl) H) (fun x45 H => ?_)
          refine ls_pick_f (y := x45) (by kernel_rfl) (by rw [hb_1]; kernel_rfl) (by kernel_rfl) ?_
          refine ls_nil ?_
          refine then_normal ?_
          exact ⟨(fun i => ([x14, x39, x1, x41, x14, x43, x44, x45]).getD i undef), x45, h_11, by kernel_rfl, HA_12, H⟩
        · refine ls_skip (d := some 38) (by kernel_rfl) (by rw [hb_1]; kernel_rfl) ?_
          refine ls_skip (d := some 39) (by kernel_rfl) (by rw [hb_1]; kernel_rfl) ?_
          refine ls_skip (d := some 40) (by kernel_rfl) (by rw [hb_1]; kernel_rfl) ?_
          refine ls_skip (d := some 41) (by kernel_rfl) (by rw [hb_1]; kernel_rfl) ?_
          refine ls_fr (b := ⟨([x0, x1, undef, undef, (.bool false), x12, x14, x7, undef, undef, x0, x11, x12, x12, x14, x14, x16, x7, x1, x19, x20, (D 4), (D 5), (D 6), (D 7), (D 8), (D 9), (D 10), (D 11), (D 12), x14, x31, x12, x1, x34, x35, x36, x36, undef, undef, undef, undef, undef, undef, undef, undef, undef, undef, undef, undef] ++ [undef, undef, undef, undef, undef, undef, undef, undef, undef, undef, undef, undef, undef, undef, undef, undef, undef, undef, undef, undef, undef, undef, undef, undef]).toArray, []⟩) (by kernel_rfl) ?_
          refine ls_skip (d := some 42) (by kernel_rfl) (by rw [hb_1]; kernel_rfl) ?_
          refine ls_skip (d := some 43) (by kernel_rfl) (by rw [hb_1]; kernel_rfl) ?_
          refine ls_skip (d := some 44) (by kernel_rfl) (by rw [hb_1]; kernel_rfl) ?_
          refine ls_skip (d := some 45) (by kernel_rfl) (by rw [hb_1]; kernel_rfl) ?_
          refine ls_pick_t (x := (.bool true)) (by kernel_rfl) (by rw [hb_1]; kernel_rfl) (by kernel_rfl) ?_
          refine ls_nil ?_
          refine then_normal ?_
          exact ⟨(fun i => ([undef, undef, undef, undef, undef, undef, undef, undef]).getD i undef), (.bool true), h_4, by kernel_rfl, HA_4, H⟩
        · rintro _ w_5 ⟨D_1, x46, h_5, rfl, HA_5, H⟩
          refine ls_nil ?_
          refine then_normal ?_
          refine fr_eq (b := ⟨([x0, x1, undef, undef, (.bool false), x12, x14, x7, undef, undef, x0, x11, x12, x12, x14, x14, x16, x7, x1, x19, x20, (D 4), (D 5), (D 6), (D 7), (D 8), (D 9), (D 10), (D 11), (D 12), x14, x31, x12, x1, x34, x35, x36, x36, (D_1 0), (D_1 1), (D_1 2), (D_1 3), (D_1 4), (D_1 5), (D_1 6), (D_1 7), x46, undef, undef, undef] ++ [undef, undef, undef, undef, undef, undef, undef, undef, undef, undef, undef, undef, undef, undef, undef, undef, undef, undef, undef, undef, undef, undef, undef, undef]).toArray, []⟩) (by kernel_rfl) ?_
          refine wp_if rfl H (fun H => ?_) (fun H => ?_)
          · refine wp_seq ?_
            refine lwp_list ?_
            refine ls_assign (x := (.bool false)) (by kernel_rfl) (by kernel_rfl) ?_
            refine ls_nil ?_
            refine then_normal ?_
            refine fr_eq (b := ⟨([x0, x1, undef, undef, (.bool false), x12, x14, x7, undef, undef, x0, x11, x12, x12, x14, x14, x16, x7, x1, x19, x20, (D 4), (D 5), (D 6), (D 7), (D 8), (D 9), (D 10), (D 11), (D 12), x14, x31, x12, x1, x34, x35, x36, x36, (D_1 0), (D_1 1), (D_1 2), (D_1 3), (D_1 4), (D_1 5), (D_1 6), (D_1 7), x46, undef, undef, undef] ++ [undef, undef, undef, undef, undef, undef, undef, undef, undef, undef, undef, undef, undef, undef, undef, undef, undef, undef, undef, undef, undef, undef, undef, undef]).toArray, []⟩) (by kernel_rfl) ?_
            refine wp_ret ?_
            refine then_ret ?_
            exact end1 (Tryd.results4) (by kernel_rfl) (by kernel_rfl) HA_5 H _ (.inr rfl)
          · refine wp_skip ?_
            refine then_normal ?_
            refine fr_eq (b := ⟨([x0, x1, undef, undef, (.bool false), x12, x14, x7, undef, undef, x0, x11, x12, x12, x14, x14, x16, x7, x1, x19, x20, (D 4), (D 5), (D 6), (D 7), (D 8), (D 9), (D 10), (D 11), (D 12), x14, x31, x12, x1, x34, x35, x36, x36, (D_1 0), (D_1 1), (D_1 2), (D_1 3), (D_1 4), (D_1 5), (D_1 6), (D_1 7), x46, undef, undef, undef] ++ [undef, undef, undef, undef, undef, undef, undef, undef, undef, undef, undef, undef, undef, undef, undef, undef, undef, undef, undef, undef, undef, undef, undef, undef]).toArray, []⟩) (by kernel_rfl) ?_
            refine wp_seq ?_
            refine wp_seq ?_
            refine lwp_list ?_
            refine ls_assign (x := (.int .i64 0)) (by kernel_rfl) (by kernel_rfl) ?_
            refine ls_nil ?_
            refine then_normal ?_
            refine fr_eq (b := ⟨([x0, x1, undef, undef, (.bool false), x12, x14, x7, (.int .i64 0), undef, x0, x11, x12, x12, x14, x14, x16, x7, x1, x19, x20, (D 4), (D 5), (D 6), (D 7), (D 8), (D 9), (D 10), (D 11), (D 12), x14, x31, x12, x1, x34, x35, x36, x36, (D_1 0), (D_1 1), (D_1 2), (D_1 3), (D_1 4), (D_1 5), (D_1 6), (D_1 7), x46, undef, undef, undef] ++ [undef, undef, undef, undef, undef, undef, undef, undef, undef, undef, undef, undef, undef, undef, undef, undef, undef, undef, undef, undef, undef, undef, undef, undef]).toArray, []⟩) (by kernel_rfl) ?_
            refine wp_block ?_
            obtain ⟨I_1, m_1, H0, HB⟩ := H
            refine wp_loop (fun a w => ∃ (D_2 : Nat → Value) (x8 : Value) (h_6 : Heap), a = ⟨([x0, x1, undef, undef, (D_2 0), x12, x14, x7, x8, (D_2 1), x0, x11, x12, x12, x14, x14, x16, x7, x1, x19, x20, (D 4), (D 5), (D 6), (D 7), (D 8), (D 9), (D 10), (D 11), (D 12), x14, x31, x12, x1, x34, x35, x36, x36, (D_1 0), (D_1 1), (D_1 2), (D_1 3), (D_1 4), (D_1 5), (D_1 6), (D_1 7), x46, (D_2 2), (D_2 3), (D_2 4)] ++ [(D_2 5), (D_2 6), (D_2 7), (D_2 8), (D_2 9), (D_2 10), (D_2 11), (D_2 12), (D_2 13), (D_2 14), (D_2 15), (D_2 16), (D_2 17), (D_2 18), (D_2 19), (D_2 20), (D_2 21), (D_2 22), (D_2 23), (D_2 24), (D_2 25), (D_2 26), (D_2 27), undef]).toArray, []⟩ ∧ At w0 w h_6 ∧ I_1 x8 h_6) (fun a w => m_1 (a.tmps.getD 8 undef) w.heap) ?_ ?_
            · exact ⟨(fun i => ([(.bool false), undef, undef, undef, undef, undef, undef, undef, undef, undef, undef, undef, undef, undef, undef, undef, undef, undef, undef, undef, undef, undef, undef, undef, undef, undef, undef, undef]).getD i undef), (.int .i64 0), h_5, by kernel_rfl, HA_5, H0⟩
            · rintro _ w_6 ⟨D_2, x8, h_6, rfl, HA_6, HI⟩
              have H : betonylaw26_BackRing_l2 R x1 x14 (fun x8' h' => I_1 x8' h' ∧ m_1 x8' h' < m_1 x8 h_6) x8 h_6 := HB x8 h_6 HI
              clear HB H0 HI
              unfold betonylaw26_BackRing_l2 at H
              refine wp_seq ?_
              refine wp_seq ?_
              refine lwp_list ?_
              refine ls_move (x := x8) (by kernel_rfl) (by kernel_rfl) ?_
              refine ls_move (x := x14) (by kernel_rfl) (by kernel_rfl) ?_
              refine ls_d (d := some 49) (by kernel_rfl) (by kernel_rfl) HA_6 (d_call (by kernel_rfl) (by kernel_rfl) H) (fun x49 h_7 w_7 H HA_7 => ?_)
              refine ls_p (d := some 50) (by kernel_rfl) (by kernel_rfl) (p_sLt (by kernel_rfl) (by kernel_rfl) H) (fun x50 H => ?_)
              refine ls_nil ?_
              refine then_normal ?_
              refine fr_eq (b := ⟨([x0, x1, undef, undef, (D_2 0), x12, x14, x7, x8, (D_2 1), x0, x11, x12, x12, x14, x14, x16, x7, x1, x19, x20, (D 4), (D 5), (D 6), (D 7), (D 8), (D 9), (D 10), (D 11), (D 12), x14, x31, x12, x1, x34, x35, x36, x36, (D_1 0), (D_1 1), (D_1 2), (D_1 3), (D_1 4), (D_1 5), (D_1 6), (D_1 7), x46, x8, x14, x49] ++ [x50, (D_2 6), (D_2 7), (D_2 8), (D_2 9), (D_2 10), (D_2 11), (D_2 12), (D_2 13), (D_2 14), (D_2 15), (D_2 16), (D_2 17), (D_2 18), (D_2 19), (D_2 20), (D_2 21), (D_2 22), (D_2 23), (D_2 24), (D_2 25), (D_2 26), (D_2 27), undef]).toArray, []⟩) (by kernel_rfl) ?_
              refine wp_if rfl H (fun H => ?_) (fun H => ?_)
              · refine wp_skip ?_
                refine then_normal ?_
                refine fr_eq (b := ⟨([x0, x1, undef, undef, (D_2 0), x12, x14, x7, x8, (D_2 1), x0, x11, x12, x12, x14, x14, x16, x7, x1, x19, x20, (D 4), (D 5), (D 6), (D 7), (D 8), (D 9), (D 10), (D 11), (D 12), x14, x31, x12, x1, x34, x35, x36, x36, (D_1 0), (D_1 1), (D_1 2), (D_1 3), (D_1 4), (D_1 5), (D_1 6), (D_1 7), x46, x8, x14, x49] ++ [x50, (D_2 6), (D_2 7), (D_2 8), (D_2 9), (D_2 10), (D_2 11), (D_2 12), (D_2 13), (D_2 14), (D_2 15), (D_2 16), (D_2 17), (D_2 18), (D_2 19), (D_2 20), (D_2 21), (D_2 22), (D_2 23), (D_2 24), (D_2 25), (D_2 26), (D_2 27), undef]).toArray, []⟩) (by kernel_rfl) ?_
                refine wp_seq ?_
                refine wp_block ?_
                refine wp_seq ?_
                refine lwp_list ?_
                refine ls_move (x := x14) (by kernel_rfl) (by kernel_rfl) ?_
                refine ls_move (x := x8) (by kernel_rfl) (by kernel_rfl) ?_
                refine ls_d (d := some 55) (by kernel_rfl) (by kernel_rfl) HA_7 (d_call (by kernel_rfl) (by kernel_rfl) H) (fun x55 h_8 w_8 H HA_8 => ?_)
                refine ls_assign (x := x55) (by kernel_rfl) (by kernel_rfl) ?_
                refine ls_nil ?_
                refine then_normal ?_
                refine fr_eq (b := ⟨([x0, x1, undef, undef, (D_2 0), x12, x14, x7, x8, x55, x0, x11, x12, x12, x14, x14, x16, x7, x1, x19, x20, (D 4), (D 5), (D 6), (D 7), (D 8), (D 9), (D 10), (D 11), (D 12), x14, x31, x12, x1, x34, x35, x36, x36, (D_1 0), (D_1 1), (D_1 2), (D_1 3), (D_1 4), (D_1 5), (D_1 6), (D_1 7), x46, x8, x14, x49] ++ [x50, (D_2 6), (D_2 7), x14, x8, x55, (D_2 11), (D_2 12), (D_2 13), (D_2 14), (D_2 15), (D_2 16), (D_2 17), (D_2 18), (D_2 19), (D_2 20), (D_2 21), (D_2 22), (D_2 23), (D_2 24), (D_2 25), (D_2 26), (D_2 27), undef]).toArray, []⟩) (by kernel_rfl) ?_
                refine wp_seq ?_
                refine lwp_list ?_
                refine ls_move (x := x55) (by kernel_rfl) (by kernel_rfl) ?_
                refine ls_p (d := some 57) (by kernel_rfl) (by kernel_rfl) (p_len Tryd.underlying22 (by kernel_rfl) H) (fun x57 H => ?_)
                refine ls_p (d := some 58) (by kernel_rfl) (by kernel_rfl) (p_sNe (by kernel_rfl) (by kernel_rfl) H) (fun x58 H => ?_)
                refine ls_move (x := x58) (by kernel_rfl) (by kernel_rfl) ?_
                refine ls_or [(), (), (), (), (), (), (), (), (), (), (), (), ()] (fun K a w => ∃ (D_3 : Nat → Value) (x72 : Value), a = ⟨([x0, x1, undef, undef, (D_2 0), x12, x14, x7, x8, x55, x0, x11, x12, x12, x14, x14, x16, x7, x1, x19, x20, (D 4), (D 5), (D 6), (D 7), (D 8), (D 9), (D 10), (D 11), (D 12), x14, x31, x12, x1, x34, x35, x36, x36, (D_1 0), (D_1 1), (D_1 2), (D_1 3), (D_1 4), (D_1 5), (D_1 6), (D_1 7), x46, x8, x14, x49] ++ [x50, (D_2 6), (D_2 7), x14, x8, x55, x55, x57, x58, x58, (D_3 0), (D_3 1), (D_3 2), (D_3 3), (D_3 4), (D_3 5), (D_3 6), (D_3 7), (D_3 8), (D_3 9), (D_3 10), (D_3 11), x72, undef]).toArray, []⟩ ∧ At w0 w h_8 ∧ K x72) H (fun hb H => ?_) (fun hb H => ?_) ?_
                · refine ls_move (x := x55) (by rw [hb]; kernel_rfl) (by kernel_rfl) ?_
                  refine ls_p (d := some 61) (by kernel_rfl) (by rw [hb]; kernel_rfl) (p_ixs Tryd.underlying22 Tryd.sizeOf32 (by kernel_rfl) (by kernel_rfl) H) (fun x61 H => ?_)
                  refine ls_fr (b := ⟨([x0, x1, undef, undef, (D_2 0), x12, x14, x7, x8, x55, x0, x11, x12, x12, x14, x14, x16, x7, x1, x19, x20, (D 4), (D 5), (D 6), (D 7), (D 8), (D 9), (D 10), (D 11), (D 12), x14, x31, x12, x1, x34, x35, x36, x36, (D_1 0), (D_1 1), (D_1 2), (D_1 3), (D_1 4), (D_1 5), (D_1 6), (D_1 7), x46, x8, x14, x49] ++ [x50, (D_2 6), (D_2 7), x14, x8, x55, x55, x57, x58, x58, x55, x61, (D_2 17), (D_2 18), (D_2 19), (D_2 20), (D_2 21), (D_2 22), (D_2 23), (D_2 24), (D_2 25), (D_2 26), (D_2 27), undef]).toArray, []⟩) (by kernel_rfl) ?_
                  refine ls_p (d := some 62) (by kernel_rfl) (by rw [hb]; kernel_rfl) (p_off Tryd.underlying32 rfl (fun w => ⟨_, Tryd.sizeOf21 w⟩) rfl (by kernel_rfl) H) (fun x62 H => ?_)
                  refine ls_y (d := some 63) (by kernel_rfl) (by rw [hb]; kernel_rfl) HA_8 (y_ld Tryd.isAgg21 (by kernel_rfl) H) (fun x63 H => ?_)
                  refine ls_move (x := x1) (by rw [hb]; kernel_rfl) (by kernel_rfl) ?_
                  refine ls_p (d := some 65) (by kernel_rfl) (by rw [hb]; kernel_rfl) (p_conv Tryd.underlying5 Tryd.underlying3 (by kernel_rfl) H) (fun x65 H => ?_)
                  refine ls_p (d := some 66) (by kernel_rfl) (by rw [hb]; kernel_rfl) (p_add (by kernel_rfl) (by kernel_rfl) H) (fun x66 H => ?_)
                  refine ls_p (d := some 67) (by kernel_rfl) (by rw [hb]; kernel_rfl) (p_sub (by kernel_rfl) (by kernel_rfl) H) (fun x67 H => ?_)
                  refine ls_fr (b := ⟨([x0, x1, undef, undef, (D_2 0), x12, x14, x7, x8, x55, x0, x11, x12, x12, x14, x14, x16, x7, x1, x19, x20, (D 4), (D 5), (D 6), (D 7), (D 8), (D 9), (D 10), (D 11), (D 12), x14, x31, x12, x1, x34, x35, x36, x36, (D_1 0), (D_1 1), (D_1 2), (D_1 3), (D_1 4), (D_1 5), (D_1 6), (D_1 7), x46, x8, x14, x49] ++ [x50, (D_2 6), (D_2 7), x14, x8, x55, x55, x57, x58, x58, x55, x61, x62, x63, x1, x65, x66, x67, (D_2 23), (D_2 24), (D_2 25), (D_2 26), (D_2 27), undef]).toArray, []⟩) (by kernel_rfl) ?_
                  refine ls_move (x := x8) (by rw [hb]; kernel_rfl) (by kernel_rfl) ?_
                  refine ls_p (d := some 69) (by kernel_rfl) (by rw [hb]; kernel_rfl) (p_sub (by kernel_rfl) (by kernel_rfl) H) (fun x69 H => ?_)
                  refine ls_p (d := some 70) (by kernel_rfl) (by rw [hb]; kernel_rfl) (p_conv Tryd.underlying3 Tryd.underlying21 (by kernel_rfl) H) (fun x70 H => ?_)
                  refine ls_p (d := some 71) (by kernel_rfl) (by rw [hb]; kernel_rfl) (p_sNe (by kernel_rfl) (by kernel_rfl) H) (fun x71 H => ?_)
                  refine ls_pick_f (y := x71) (by kernel_rfl) (by rw [hb]; kernel_rfl) (by kernel_rfl) ?_
                  refine ls_nil ?_
                  refine then_normal ?_
                  exact ⟨(fun i => ([x55, x61, x62, x63, x1, x65, x66, x67, x8, x69, x70, x71]).getD i undef), x71, by kernel_rfl, HA_8, H⟩
                · refine ls_skip (d := some 60) (by kernel_rfl) (by rw [hb]; kernel_rfl) ?_
                  refine ls_skip (d := some 61) (by kernel_rfl) (by rw [hb]; kernel_rfl) ?_
                  refine ls_fr (b := ⟨([x0, x1, undef, undef, (D_2 0), x12, x14, x7, x8, x55, x0, x11, x12, x12, x14, x14, x16, x7, x1, x19, x20, (D 4), (D 5), (D 6), (D 7), (D 8), (D 9), (D 10), (D 11), (D 12), x14, x31, x12, x1, x34, x35, x36, x36, (D_1 0), (D_1 1), (D_1 2), (D_1 3), (D_1 4), (D_1 5), (D_1 6), (D_1 7), x46, x8, x14, x49] ++ [x50, (D_2 6), (D_2 7), x14, x8, x55, x55, x57, x58, x58, undef, undef, (D_2 17), (D_2 18), (D_2 19), (D_2 20), (D_2 21), (D_2 22), (D_2 23), (D_2 24), (D_2 25), (D_2 26), (D_2 27), undef]).toArray, []⟩) (by kernel_rfl) ?_
                  refine ls_skip (d := some 62) (by kernel_rfl) (by rw [hb]; kernel_rfl) ?_
                  refine ls_skip (d := some 63) (by kernel_rfl) (by rw [hb]; kernel_rfl) ?_
                  refine ls_skip (d := some 64) (by kernel_rfl) (by rw [hb]; kernel_rfl) ?_
                  refine ls_skip (d := some 65) (by kernel_rfl) (by rw [hb]; kernel_rfl) ?_
                  refine ls_skip (d := some 66) (by kernel_rfl) (by rw [hb]; kernel_rfl) ?_
                  refine ls_skip (d := some 67) (by kernel_rfl) (by rw [hb]; kernel_rfl) ?_
                  refine ls_fr (b := ⟨([x0, x1, undef, undef, (D_2 0), x12, x14, x7, x8, x55, x0, x11, x12, x12, x14, x14, x16, x7, x1, x19, x20, (D 4), (D 5), (D 6), (D 7), (D 8), (D 9), (D 10), (D 11), (D 12), x14, x31, x12, x1, x34, x35, x36, x36, (D_1 0), (D_1 1), (D_1 2), (D_1 3), (D_1 4), (D_1 5), (D_1 6), (D_1 7), x46, x8, x14, x49] ++ [x50, (D_2 6), (D_2 7), x14, x8, x55, x55, x57, x58, x58, undef, undef, undef, undef, undef, undef, undef, undef, (D_2 23), (D_2 24), (D_2 25), (D_2 26), (D_2 27), undef]).toArray, []⟩) (by kernel_rfl) ?_
                  refine ls_skip (d := some 68) (by kernel_rfl) (by rw [hb]; kernel_rfl) ?_
                  refine ls_skip (d := some 69) (by kernel_rfl) (by rw [hb]; kernel_rfl) ?_
                  refine ls_skip (d := some 70) (by kernel_rfl) (by rw [hb]; kernel_rfl) ?_
                  refine ls_skip (d := some 71) (by kernel_rfl) (by rw [hb]; kernel_rfl) ?_
                  refine ls_pick_t (x := (.bool true)) (by kernel_rfl) (by rw [hb]; kernel_rfl) (by kernel_rfl) ?_
                  refine ls_nil ?_
                  refine then_normal ?_
                  exact ⟨(fun i => ([undef, undef, undef, undef, undef, undef, undef, undef, undef, undef, undef, undef]).getD i undef), (.bool true), by kernel_rfl, HA_8, H⟩
                · rintro _ w_9 ⟨D_3, x72, rfl, HA_9, H⟩
                  refine ls_nil ?_
                  refine then_normal ?_
                  refine fr_eq (b := ⟨([x0, x1, undef, undef, (D_2 0), x12, x14, x7, x8, x55, x0, x11, x12, x12, x14, x14, x16, x7, x1, x19, x20, (D 4), (D 5), (D 6), (D 7), (D 8), (D 9), (D 10), (D 11), (D 12), x14, x31, x12, x1, x34, x35, x36, x36, (D_1 0), (D_1 1), (D_1 2), (D_1 3), (D_1 4), (D_1 5), (D_1 6), (D_1 7), x46, x8, x14, x49] ++ [x50, (D_2 6), (D_2 7), x14, x8, x55, x55, x57, x58, x58, (D_3 0), (D_3 1), (D_3 2), (D_3 3), (D_3 4), (D_3 5), (D_3 6), (D_3 7), (D_3 8), (D_3 9), (D_3 10), (D_3 11), x72, undef]).toArray, []⟩) (by kernel_rfl) ?_
                  refine wp_if rfl H (fun H => ?_) (fun H => ?_)
                  · refine wp_seq ?_
                    refine lwp_list ?_
                    refine ls_assign (x := (.bool false)) (by kernel_rfl) (by kernel_rfl) ?_
                    refine ls_nil ?_
                    refine then_normal ?_
                    refine fr_eq (b := ⟨([x0, x1, undef, undef, (.bool false), x12, x14, x7, x8, x55, x0, x11, x12, x12, x14, x14, x16, x7, x1, x19, x20, (D 4), (D 5), (D 6), (D 7), (D 8), (D 9), (D 10), (D 11), (D 12), x14, x31, x12, x1, x34, x35, x36, x36, (D_1 0), (D_1 1), (D_1 2), (D_1 3), (D_1 4), (D_1 5), (D_1 6), (D_1 7), x46, x8, x14, x49] ++ [x50, (D_2 6), (D_2 7), x14, x8, x55, x55, x57, x58, x58, (D_3 0), (D_3 1), (D_3 2), (D_3 3), (D_3 4), (D_3 5), (D_3 6), (D_3 7), (D_3 8), (D_3 9), (D_3 10), (D_3 11), x72, undef]).toArray, []⟩) (by kernel_rfl) ?_
                    refine wp_ret ?_
                    refine block_ret ?_
                    refine then_ret ?_
                    refine then_ret ?_
                    refine block_ret ?_
                    refine then_ret ?_
                    exact end1 (Tryd.results4) (by kernel_rfl) (by kernel_rfl) HA_9 H _ (.inr rfl)
                  · refine wp_skip ?_
                    refine block_normal ?_
                    refine then_normal ?_
                    refine fr_eq (b := ⟨([x0, x1, undef, undef, (D_2 0), x12, x14, x7, x8, x55, x0, x11, x12, x12, x14, x14, x16, x7, x1, x19, x20, (D 4), (D 5), (D 6), (D 7), (D 8), (D 9), (D 10), (D 11), (D 12), x14, x31, x12, x1, x34, x35, x36, x36, (D_1 0), (D_1 1), (D_1 2), (D_1 3), (D_1 4), (D_1 5), (D_1 6), (D_1 7), x46, x8, x14, x49] ++ [x50, (D_2 6), (D_2 7), x14, x8, x55, x55, x57, x58, x58, (D_3 0), (D_3 1), (D_3 2), (D_3 3), (D_3 4), (D_3 5), (D_3 6), (D_3 7), (D_3 8), (D_3 9), (D_3 10), (D_3 11), x72, undef]).toArray, []⟩) (by kernel_rfl) ?_
                    refine lwp_list ?_
                    refine ls_move (x := x8) (by kernel_rfl) (by kernel_rfl) ?_
                    refine ls_p (d := some 52) (by kernel_rfl) (by kernel_rfl) (p_add (by kernel_rfl) (by kernel_rfl) H) (fun x52 H => ?_)
                    refine ls_assign (x := x52) (by kernel_rfl) (by kernel_rfl) ?_
                    refine ls_nil ?_
                    exact ⟨⟨(fun i => ([(D_2 0), x55, x8, x14, x49, x50, x8, x52, x14, x8, x55, x55, x57, x58, x58, (D_3 0), (D_3 1), (D_3 2), (D_3 3), (D_3 4), (D_3 5), (D_3 6), (D_3 7), (D_3 8), (D_3 9), (D_3 10), (D_3 11), x72]).getD i undef), x52, h_8, by kernel_rfl, HA_9, H.1⟩, loop_lt HA_9.heap HA_6.heap (by kernel_rfl) (by kernel_rfl) H.2⟩
              · refine wp_exit ?_
                refine then_exit ?_
                refine then_exit ?_
                refine block_exit ?_
                refine then_normal ?_
                refine fr_eq (b := ⟨([x0, x1, undef, undef, (D_2 0), x12, x14, x7, x8, (D_2 1), x0, x11, x12, x12, x14, x14, x16, x7, x1, x19, x20, (D 4), (D 5), (D 6), (D 7), (D 8), (D 9), (D 10), (D 11), (D 12), x14, x31, x12, x1, x34, x35, x36, x36, (D_1 0), (D_1 1), (D_1 2), (D_1 3), (D_1 4), (D_1 5), (D_1 6), (D_1 7), x46, x8, x14, x49] ++ [x50, (D_2 6), (D_2 7), (D_2 8), (D_2 9), (D_2 10), (D_2 11), (D_2 12), (D_2 13), (D_2 14), (D_2 15), (D_2 16), (D_2 17), (D_2 18), (D_2 19), (D_2 20), (D_2 21), (D_2 22), (D_2 23), (D_2 24), (D_2 25), (D_2 26), (D_2 27), undef]).toArray, []⟩) (by kernel_rfl) ?_
                refine wp_seq ?_
                refine lwp_list ?_
                refine ls_d (d := some 73) (by kernel_rfl) (by kernel_rfl) HA_7 (d_call (by kernel_rfl) (by kernel_rfl) H) (fun x73 h_9 w_10 H HA_10 => ?_)
                refine ls_assign (x := x73) (by kernel_rfl) (by kernel_rfl) ?_
                refine ls_nil ?_
                refine then_normal ?_
                refine fr_eq (b := ⟨([x0, x1, undef, undef, x73, x12, x14, x7, x8, (D_2 1), x0, x11, x12, x12, x14, x14, x16, x7, x1, x19, x20, (D 4), (D 5), (D 6), (D 7), (D 8), (D 9), (D 10), (D 11), (D 12), x14, x31, x12, x1, x34, x35, x36, x36, (D_1 0), (D_1 1), (D_1 2), (D_1 3), (D_1 4), (D_1 5), (D_1 6), (D_1 7), x46, x8, x14, x49] ++ [x50, (D_2 6), (D_2 7), (D_2 8), (D_2 9), (D_2 10), (D_2 11), (D_2 12), (D_2 13), (D_2 14), (D_2 15), (D_2 16), (D_2 17), (D_2 18), (D_2 19), (D_2 20), (D_2 21), (D_2 22), (D_2 23), (D_2 24), (D_2 25), (D_2 26), (D_2 27), x73]).toArray, []⟩) (by kernel_rfl) ?_
                refine wp_ret ?_
                exact end1 (Tryd.results4) (by kernel_rfl) (by kernel_rfl) HA_10 H _ (.inr rfl)

end Go.Proofs.YtjlpgakoedigoaaDoor
