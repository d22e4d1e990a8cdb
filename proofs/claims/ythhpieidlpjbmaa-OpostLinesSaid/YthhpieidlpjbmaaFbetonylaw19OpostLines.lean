/- The shallow reading of one function, and that the function does it. Written by a program. -/
import Derived.Test.YthhpieidlpjbmaaFnC
set_option linter.unusedVariables false
namespace Go.Proofs.Ythhpieidlpjbmaa
open Go Go.HW

def betonylaw19_OpostLines_l1 (R : Value → Heap → Prop) (x0 x1 x2 : Value) (next : Value → Heap → Prop) (x7 : Value) (h_1 : Heap) : Prop :=
  sLen x1 fun x22 =>
  sLt x7 x22 fun x23 =>
  sIf x23 (sIxS x1 x7 1 fun x28 =>
  sLd h_1 x28 fun x29 =>
  sLt x29 (.int .u8 32) fun x30 =>
  sOr x30 (fun k =>
  sIxS x1 x7 1 fun x34 =>
  sLd h_1 x34 fun x35 =>
  sGt x35 (.int .u8 126) fun x36 =>
  k x36) fun x37 =>
  sIf x37 (betonylaw19_awake_c  h_1 fun x38 h_2 => 
  R x38 h_2) (sAdd .i64 x7 (.int .i64 1) fun x25 =>
  next x25 h_1)) (sSlit h_1 #[] [] 5 0 fun x39 h_3 => 
  sApp h_3 x39 x0 #[.int .u8 0] 5 1 fun x41 h_4 => 
  sSlit h_4 #[.int .u8 0] [(0, 1, (.int .u8 10))] 5 1 fun x42 h_5 => 
  sApp h_5 x41 x42 #[.int .u8 0] 5 1 fun x43 h_6 => 
  sApp h_6 x43 x1 #[.int .u8 0] 5 1 fun x45 h_7 => 
  sConv .i64 x2 fun x48 =>
  opost_Bytes_c (.int .i64 3) x48 x45 h_7 fun x50 h_8 => 
  sTup x50 0 fun x51 =>
  sTup x50 1 fun x52 =>
  sLen x1 fun x55 =>
  sEq x52 x55 fun x56 =>
  sAnd x56 (fun k_4 =>
  sLen x51 fun x59 =>
  sLen x1 fun x61 =>
  sAdd .i64 x61 (.int .i64 2) fun x62 =>
  sGe x59 x62 fun x63 =>
  k_4 x63) fun x64 =>
  sAndH x64 h_8 (fun k_3 =>
  sLen x51 fun x68 =>
  sLen x1 fun x70 =>
  sSub .i64 x68 x70 fun x71 =>
  sSl x51 (some x71) none 1 fun x72 =>
  betonyref01_Same_c x72 x1 h_8 fun x74 h_12 => 
  k_3 x74 h_12) fun x75 h_9 =>
  sAnd x75 (fun k_2 =>
  sLen x51 fun x79 =>
  sLen x1 fun x81 =>
  sSub .i64 x79 x81 fun x82 =>
  sSub .i64 x82 (.int .i64 2) fun x83 =>
  sIxS x51 x83 1 fun x84 =>
  sLd h_9 x84 fun x85 =>
  sEq x85 (.int .u8 13) fun x86 =>
  k_2 x86) fun x87 =>
  sAndH x87 h_9 (fun k_1 =>
  betonylaw19_awake_c  h_9 fun x89 h_11 => 
  k_1 x89 h_11) fun x90 h_10 =>
  R x90 h_10)
def betonylaw19_OpostLines_S (x0 x1 x2 : Value) (h : Heap) (R : Value → Heap → Prop) : Prop :=
  sLen x0 fun x12 =>
  sGt x12 (.int .i64 100) fun x13 =>
  sOr x13 (fun k_5 =>
  sLen x1 fun x16 =>
  sGt x16 (.int .i64 100) fun x17 =>
  k_5 x17) fun x18 =>
  sIf x18 (betonylaw19_awake_c  h fun x19 h => 
  R x19 h) (sLoop (S := Value) (fun nxt s h => betonylaw19_OpostLines_l1 R x0 x1 x2 (fun x7' h => nxt x7' h) s h) (.int .i64 0) h)
set_option maxRecDepth 100000 in
theorem betonylaw19_OpostLines_runs {x0 x1 x2 : Value} {h : Heap} {R : Value → Heap → Prop} (H : betonylaw19_OpostLines_S x0 x1 x2 h R) : betonylaw19_OpostLines_c x0 x1 x2 h R := by
  unfold betonylaw19_OpostLines_S at H
  refine runs_of (b := ⟨([x0, x1, x2, undef, undef, undef, undef, undef, undef, undef, undef, undef, undef, undef, undef, undef, undef, undef, undef, undef, undef, undef, undef, undef, undef, undef, undef, undef, undef, undef, undef, undef, undef, undef, undef, undef, undef, undef, undef, undef, undef, undef, undef, undef, undef, undef, undef, undef, undef, undef] ++ [undef, undef, undef, undef, undef, undef, undef, undef, undef, undef, undef, undef, undef, undef, undef, undef, undef, undef, undef, undef, undef, undef, undef, undef, undef, undef, undef, undef, undef, undef, undef, undef, undef, undef, undef, undef, undef, undef, undef, undef, undef]).toArray, []⟩) Try.call10 Try.func10 rfl (by kernel_rfl) (fun w0 HA => ?_)
  refine wp_seq ?_
  refine lwp_list ?_
  refine ls_assign (x := (.bool false)) (by kernel_rfl) (by kernel_rfl) ?_
  refine ls_nil ?_
  refine then_normal ?_
  refine fr_eq (b := ⟨([x0, x1, x2, undef, undef, undef, (.bool false), undef, undef, undef, undef, undef, undef, undef, undef, undef, undef, undef, undef, undef, undef, undef, undef, undef, undef, undef, undef, undef, undef, undef, undef, undef, undef, undef, undef, undef, undef, undef, undef, undef, undef, undef, undef, undef, undef, undef, undef, undef, undef, undef] ++ [undef, undef, undef, undef, undef, undef, undef, undef, undef, undef, undef, undef, undef, undef, undef, undef, undef, undef, undef, undef, undef, undef, undef, undef, undef, undef, undef, undef, undef, undef, undef, undef, undef, undef, undef, undef, undef, undef, undef, undef, undef]).toArray, []⟩) (by kernel_rfl) ?_
  refine wp_seq ?_
  refine wp_seq ?_
  refine lwp_list ?_
  refine ls_move (x := x0) (by kernel_rfl) (by kernel_rfl) ?_
  refine ls_p (d := some 12) (by kernel_rfl) (by kernel_rfl) (p_len Try.underlying56 (by kernel_rfl) H) (fun x12 H => ?_)
  refine ls_p (d := some 13) (by kernel_rfl) (by kernel_rfl) (p_sGt (by kernel_rfl) (by kernel_rfl) H) (fun x13 H => ?_)
  refine ls_move (x := x13) (by kernel_rfl) (by kernel_rfl) ?_
  refine ls_or [(), (), (), ()] (fun K a w => ∃ (D : Nat → Value) (x18 : Value), a = ⟨([x0, x1, x2, undef, undef, undef, (.bool false), undef, undef, undef, undef, x0, x12, x13, x13, (D 0), (D 1), (D 2), x18, undef, undef, undef, undef, undef, undef, undef, undef, undef, undef, undef, undef, undef, undef, undef, undef, undef, undef, undef, undef, undef, undef, undef, undef, undef, undef, undef, undef, undef, undef, undef] ++ [undef, undef, undef, undef, undef, undef, undef, undef, undef, undef, undef, undef, undef, undef, undef, undef, undef, undef, undef, undef, undef, undef, undef, undef, undef, undef, undef, undef, undef, undef, undef, undef, undef, undef, undef, undef, undef, undef, undef, undef, undef]).toArray, []⟩ ∧ At w0 w h ∧ K x18) H (fun hb_5 H => ?_) (fun hb_5 H => ?_) ?_
  · refine ls_move (x := x1) (by rw [hb_5]; kernel_rfl) (by kernel_rfl) ?_
    refine ls_p (d := some 16) (by kernel_rfl) (by rw [hb_5]; kernel_rfl) (p_len Try.underlying56 (by kernel_rfl) H) (fun x16 H => ?_)
    refine ls_fr (b := ⟨([x0, x1, x2, undef, undef, undef, (.bool false), undef, undef, undef, undef, x0, x12, x13, x13, x1, x16, undef, undef, undef, undef, undef, undef, undef, undef, undef, undef, undef, undef, undef, undef, undef, undef, undef, undef, undef, undef, undef, undef, undef, undef, undef, undef, undef, undef, undef, undef, undef, undef, undef] ++ [undef, undef, undef, undef, undef, undef, undef, undef, undef, undef, undef, undef, undef, undef, undef, undef, undef, undef, undef, undef, undef, undef, undef, undef, undef, undef, undef, undef, undef, undef, undef, undef, undef, undef, undef, undef, undef, undef, undef, undef, undef]).toArray, []⟩) (by kernel_rfl) ?_
    refine ls_p (d := some 17) (by kernel_rfl) (by rw [hb_5]; kernel_rfl) (p_sGt (by kernel_rfl) (by kernel_rfl) H) (fun x17 H => ?_)
    refine ls_pick_f (y := x17) (by kernel_rfl) (by rw [hb_5]; kernel_rfl) (by kernel_rfl) ?_
    refine ls_nil ?_
    refine then_normal ?_
    exact ⟨(fun i => ([x1, x16, x17]).getD i undef), x17, by kernel_rfl, HA, H⟩
  · refine ls_skip (d := some 15) (by kernel_rfl) (by rw [hb_5]; kernel_rfl) ?_
    refine ls_skip (d := some 16) (by kernel_rfl) (by rw [hb_5]; kernel_rfl) ?_
    refine ls_fr (b := ⟨([x0, x1, x2, undef, undef, undef, (.bool false), undef, undef, undef, undef, x0, x12, x13, x13, undef, undef, undef, undef, undef, undef, undef, undef, undef, undef, undef, undef, undef, undef, undef, undef, undef, undef, undef, undef, undef, undef, undef, undef, undef, undef, undef, undef, undef, undef, undef, undef, undef, undef, undef] ++ [undef, undef, undef, undef, undef, undef, undef, undef, undef, undef, undef, undef, undef, undef, undef, undef, undef, undef, undef, undef, undef, undef, undef, undef, undef, undef, undef, undef, undef, undef, undef, undef, undef, undef, undef, undef, undef, undef, undef, undef, undef]).toArray, []⟩) (by kernel_rfl) ?_
    refine ls_skip (d := some 17) (by kernel_rfl) (by rw [hb_5]; kernel_rfl) ?_
    refine ls_pick_t (x := (.bool true)) (by kernel_rfl) (by rw [hb_5]; kernel_rfl) (by kernel_rfl) ?_
    refine ls_nil ?_
    refine then_normal ?_
    exact ⟨(fun i => ([undef, undef, undef]).getD i undef), (.bool true), by kernel_rfl, HA, H⟩
  · rintro _ w ⟨D, x18, rfl, HA, H⟩
    refine ls_nil ?_
    refine then_normal ?_
    refine fr_eq (b := ⟨([x0, x1, x2, undef, undef, undef, (.bool false), undef, undef, undef, undef, x0, x12, x13, x13, (D 0), (D 1), (D 2), x18, undef, undef, undef, undef, undef, undef, undef, undef, undef, undef, undef, undef, undef, undef, undef, undef, undef, undef, undef, undef, undef, undef, undef, undef, undef, undef, undef, undef, undef, undef, undef] ++ [undef, undef, undef, undef, undef, undef, undef, undef, undef, undef, undef, undef, undef, undef, undef, undef, undef, undef, undef, undef, undef, undef, undef, undef, undef, undef, undef, undef, undef, undef, undef, undef, undef, undef, undef, undef, undef, undef, undef, undef, undef]).toArray, []⟩) (by kernel_rfl) ?_
    refine wp_if rfl H (fun H => ?_) (fun H => ?_)
    · refine wp_seq ?_
      refine lwp_list ?_
      refine ls_d (d := some 19) (by kernel_rfl) (by kernel_rfl) HA (d_call (by kernel_rfl) (by kernel_rfl) H) (fun x19 h w_1 H HA_1 => ?_)
      refine ls_assign (x := x19) (by kernel_rfl) (by kernel_rfl) ?_
      refine ls_nil ?_
      refine then_normal ?_
      refine fr_eq (b := ⟨([x0, x1, x2, undef, undef, undef, x19, undef, undef, undef, undef, x0, x12, x13, x13, (D 0), (D 1), (D 2), x18, x19, undef, undef, undef, undef, undef, undef, undef, undef, undef, undef, undef, undef, undef, undef, undef, undef, undef, undef, undef, undef, undef, undef, undef, undef, undef, undef, undef, undef, undef, undef] ++ [undef, undef, undef, undef, undef, undef, undef, undef, undef, undef, undef, undef, undef, undef, undef, undef, undef, undef, undef, undef, undef, undef, undef, undef, undef, undef, undef, undef, undef, undef, undef, undef, undef, undef, undef, undef, undef, undef, undef, undef, undef]).toArray, []⟩) (by kernel_rfl) ?_
      refine wp_ret ?_
      refine then_ret ?_
      exact end1 (Try.results10) (by kernel_rfl) (by kernel_rfl) HA_1 H _ (.inr rfl)
    · refine wp_skip ?_
      refine then_normal ?_
      refine fr_eq (b := ⟨([x0, x1, x2, undef, undef, undef, (.bool false), undef, undef, undef, undef, x0, x12, x13, x13, (D 0), (D 1), (D 2), x18, undef, undef, undef, undef, undef, undef, undef, undef, undef, undef, undef, undef, undef, undef, undef, undef, undef, undef, undef, undef, undef, undef, undef, undef, undef, undef, undef, undef, undef, undef, undef] ++ [undef, undef, undef, undef, undef, undef, undef, undef, undef, undef, undef, undef, undef, undef, undef, undef, undef, undef, undef, undef, undef, undef, undef, undef, undef, undef, undef, undef, undef, undef, undef, undef, undef, undef, undef, undef, undef, undef, undef, undef, undef]).toArray, []⟩) (by kernel_rfl) ?_
      refine wp_seq ?_
      refine wp_seq ?_
      refine lwp_list ?_
      refine ls_assign (x := (.int .i64 0)) (by kernel_rfl) (by kernel_rfl) ?_
      refine ls_nil ?_
      refine then_normal ?_
      refine fr_eq (b := ⟨([x0, x1, x2, undef, undef, undef, (.bool false), (.int .i64 0), undef, undef, undef, x0, x12, x13, x13, (D 0), (D 1), (D 2), x18, undef, undef, undef, undef, undef, undef, undef, undef, undef, undef, undef, undef, undef, undef, undef, undef, undef, undef, undef, undef, undef, undef, undef, undef, undef, undef, undef, undef, undef, undef, undef] ++ [undef, undef, undef, undef, undef, undef, undef, undef, undef, undef, undef, undef, undef, undef, undef, undef, undef, undef, undef, undef, undef, undef, undef, undef, undef, undef, undef, undef, undef, undef, undef, undef, undef, undef, undef, undef, undef, undef, undef, undef, undef]).toArray, []⟩) (by kernel_rfl) ?_
      refine wp_block ?_
      obtain ⟨I, m, H0, HB⟩ := H
      refine wp_loop (fun a w => ∃ (D_1 : Nat → Value) (x7 : Value) (h_1 : Heap), a = ⟨([x0, x1, x2, undef, undef, undef, (D_1 0), x7, undef, undef, undef, x0, x12, x13, x13, (D 0), (D 1), (D 2), x18, undef, (D_1 1), (D_1 2), (D_1 3), (D_1 4), (D_1 5), (D_1 6), (D_1 7), (D_1 8), (D_1 9), (D_1 10), (D_1 11), (D_1 12), (D_1 13), (D_1 14), (D_1 15), (D_1 16), (D_1 17), (D_1 18), (D_1 19), undef, undef, undef, undef, undef, undef, undef, undef, undef, undef, undef] ++ [undef, undef, undef, undef, undef, undef, undef, undef, undef, undef, undef, undef, undef, undef, undef, undef, undef, undef, undef, undef, undef, undef, undef, undef, undef, undef, undef, undef, undef, undef, undef, undef, undef, undef, undef, undef, undef, undef, undef, undef, undef]).toArray, []⟩ ∧ At w0 w h_1 ∧ I x7 h_1) (fun a w => m (a.tmps.getD 7 undef) w.heap) ?_ ?_
      · exact ⟨(fun i => ([(.bool false), undef, undef, undef, undef, undef, undef, undef, undef, undef, undef, undef, undef, undef, undef, undef, undef, undef, undef, undef]).getD i undef), (.int .i64 0), h, by kernel_rfl, HA, H0⟩
      · rintro _ w_2 ⟨D_1, x7, h_1, rfl, HA_2, HI⟩
        have H : betonylaw19_OpostLines_l1 R x0 x1 x2 (fun x7' h' => I x7' h' ∧ m x7' h' < m x7 h_1) x7 h_1 := HB x7 h_1 HI
        clear HB H0 HI
        unfold betonylaw19_OpostLines_l1 at H
        refine wp_seq ?_
        refine wp_seq ?_
        refine lwp_list ?_
        refine ls_move (x := x7) (by kernel_rfl) (by kernel_rfl) ?_
        refine ls_move (x := x1) (by kernel_rfl) (by kernel_rfl) ?_
        refine ls_p (d := some 22) (by kernel_rfl) (by kernel_rfl) (p_len Try.underlying56 (by kernel_rfl) H) (fun x22 H => ?_)
        refine ls_p (d := some 23) (by kernel_rfl) (by kernel_rfl) (p_sLt (by kernel_rfl) (by kernel_rfl) H) (fun x23 H => ?_)
        refine ls_nil ?_
        refine then_normal ?_
        refine fr_eq (b := ⟨([x0, x1, x2, undef, undef, undef, (D_1 0), x7, undef, undef, undef, x0, x12, x13, x13, (D 0), (D 1), (D 2), x18, undef, x7, x1, x22, x23, (D_1 5), (D_1 6), (D_1 7), (D_1 8), (D_1 9), (D_1 10), (D_1 11), (D_1 12), (D_1 13), (D_1 14), (D_1 15), (D_1 16), (D_1 17), (D_1 18), (D_1 19), undef, undef, undef, undef, undef, undef, undef, undef, undef, undef, undef] ++ [undef, undef, undef, undef, undef, undef, undef, undef, undef, undef, undef, undef, undef, undef, undef, undef, undef, undef, undef, undef, undef, undef, undef, undef, undef, undef, undef, undef, undef, undef, undef, undef, undef, undef, undef, undef, undef, undef, undef, undef, undef]).toArray, []⟩) (by kernel_rfl) ?_
        refine wp_if rfl H (fun H => ?_) (fun H => ?_)
        · refine wp_skip ?_
          refine then_normal ?_
          refine fr_eq (b := ⟨([x0, x1, x2, undef, undef, undef, (D_1 0), x7, undef, undef, undef, x0, x12, x13, x13, (D 0), (D 1), (D 2), x18, undef, x7, x1, x22, x23, (D_1 5), (D_1 6), (D_1 7), (D_1 8), (D_1 9), (D_1 10), (D_1 11), (D_1 12), (D_1 13), (D_1 14), (D_1 15), (D_1 16), (D_1 17), (D_1 18), (D_1 19), undef, undef, undef, undef, undef, undef, undef, undef, undef, undef, undef] ++ [undef, undef, undef, undef, undef, undef, undef, undef, undef, undef, undef, undef, undef, undef, undef, undef, undef, undef, undef, undef, undef, undef, undef, undef, undef, undef, undef, undef, undef, undef, undef, undef, undef, undef, undef, undef, undef, undef, undef, undef, undef]).toArray, []⟩) (by kernel_rfl) ?_
          refine wp_seq ?_
          refine wp_block ?_
          refine wp_seq ?_
          refine lwp_list ?_
          refine ls_move (x := x1) (by kernel_rfl) (by kernel_rfl) ?_
          refine ls_move (x := x7) (by kernel_rfl) (by kernel_rfl) ?_
          refine ls_p (d := some 28) (by kernel_rfl) (by kernel_rfl) (p_ixs Try.underlying56 Try.sizeOf5 (by kernel_rfl) (by kernel_rfl) H) (fun x28 H => ?_)
          refine ls_y (d := some 29) (by kernel_rfl) (by kernel_rfl) HA_2 (y_ld Try.isAgg5 (by kernel_rfl) H) (fun x29 H => ?_)
          refine ls_p (d := some 30) (by kernel_rfl) (by kernel_rfl) (p_sLt (by kernel_rfl) (by kernel_rfl) H) (fun x30 H => ?_)
          refine ls_move (x := x30) (by kernel_rfl) (by kernel_rfl) ?_
          refine ls_fr (b := ⟨([x0, x1, x2, undef, undef, undef, (D_1 0), x7, undef, undef, undef, x0, x12, x13, x13, (D 0), (D 1), (D 2), x18, undef, x7, x1, x22, x23, (D_1 5), (D_1 6), x1, x7, x28, x29, x30, x30, (D_1 13), (D_1 14), (D_1 15), (D_1 16), (D_1 17), (D_1 18), (D_1 19), undef, undef, undef, undef, undef, undef, undef, undef, undef, undef, undef] ++ [undef, undef, undef, undef, undef, undef, undef, undef, undef, undef, undef, undef, undef, undef, undef, undef, undef, undef, undef, undef, undef, undef, undef, undef, undef, undef, undef, undef, undef, undef, undef, undef, undef, undef, undef, undef, undef, undef, undef, undef, undef]).toArray, []⟩) (by kernel_rfl) ?_
          refine ls_or [(), (), (), (), (), ()] (fun K a w => ∃ (D_2 : Nat → Value) (x37 : Value), a = ⟨([x0, x1, x2, undef, undef, undef, (D_1 0), x7, undef, undef, undef, x0, x12, x13, x13, (D 0), (D 1), (D 2), x18, undef, x7, x1, x22, x23, (D_1 5), (D_1 6), x1, x7, x28, x29, x30, x30, (D_2 0), (D_2 1), (D_2 2), (D_2 3), (D_2 4), x37, (D_1 19), undef, undef, undef, undef, undef, undef, undef, undef, undef, undef, undef] ++ [undef, undef, undef, undef, undef, undef, undef, undef, undef, undef, undef, undef, undef, undef, undef, undef, undef, undef, undef, undef, undef, undef, undef, undef, undef, undef, undef, undef, undef, undef, undef, undef, undef, undef, undef, undef, undef, undef, undef, undef, undef]).toArray, []⟩ ∧ At w0 w h_1 ∧ K x37) H (fun hb H => ?_) (fun hb H => ?_) ?_
          · refine ls_move (x := x1) (by rw [hb]; kernel_rfl) (by kernel_rfl) ?_
            refine ls_move (x := x7) (by rw [hb]; kernel_rfl) (by kernel_rfl) ?_
            refine ls_p (d := some 34) (by kernel_rfl) (by rw [hb]; kernel_rfl) (p_ixs Try.underlying56 Try.sizeOf5 (by kernel_rfl) (by kernel_rfl) H) (fun x34 H => ?_)
            refine ls_y (d := some 35) (by kernel_rfl) (by rw [hb]; kernel_rfl) HA_2 (y_ld Try.isAgg5 (by kernel_rfl) H) (fun x35 H => ?_)
            refine ls_p (d := some 36) (by kernel_rfl) (by rw [hb]; kernel_rfl) (p_sGt (by kernel_rfl) (by kernel_rfl) H) (fun x36 H => ?_)
            refine ls_pick_f (y := x36) (by kernel_rfl) (by rw [hb]; kernel_rfl) (by kernel_rfl) ?_
            refine ls_nil ?_
            refine then_normal ?_
            exact ⟨(fun i => ([x1, x7, x34, x35, x36]).getD i undef), x36, by kernel_rfl, HA_2, H⟩
          · refine ls_skip (d := some 32) (by kernel_rfl) (by rw [hb]; kernel_rfl) ?_
            refine ls_skip (d := some 33) (by kernel_rfl) (by rw [hb]; kernel_rfl) ?_
            refine ls_skip (d := some 34) (by kernel_rfl) (by rw [hb]; kernel_rfl) ?_
            refine ls_skip (d := some 35) (by kernel_rfl) (by rw [hb]; kernel_rfl) ?_
            refine ls_skip (d := some 36) (by kernel_rfl) (by rw [hb]; kernel_rfl) ?_
            refine ls_pick_t (x := (.bool true)) (by kernel_rfl) (by rw [hb]; kernel_rfl) (by kernel_rfl) ?_
            refine ls_nil ?_
            refine then_normal ?_
            exact ⟨(fun i => ([undef, undef, undef, undef, undef]).getD i undef), (.bool true), by kernel_rfl, HA_2, H⟩
          · rintro _ w_3 ⟨D_2, x37, rfl, HA_3, H⟩
            refine ls_nil ?_
            refine then_normal ?_
            refine fr_eq (b := ⟨([x0, x1, x2, undef, undef, undef, (D_1 0), x7, undef, undef, undef, x0, x12, x13, x13, (D 0), (D 1), (D 2), x18, undef, x7, x1, x22, x23, (D_1 5), (D_1 6), x1, x7, x28, x29, x30, x30, (D_2 0), (D_2 1), (D_2 2), (D_2 3), (D_2 4), x37, (D_1 19), undef, undef, undef, undef, undef, undef, undef, undef, undef, undef, undef] ++ [undef, undef, undef, undef, undef, undef, undef, undef, undef, undef, undef, undef, undef, undef, undef, undef, undef, undef, undef, undef, undef, undef, undef, undef, undef, undef, undef, undef, undef, undef, undef, undef, undef, undef, undef, undef, undef, undef, undef, undef, undef]).toArray, []⟩) (by kernel_rfl) ?_
            refine wp_if rfl H (fun H => ?_) (fun H => ?_)
            · refine wp_seq ?_
              refine lwp_list ?_
              refine ls_d (d := some 38) (by kernel_rfl) (by kernel_rfl) HA_3 (d_call (by kernel_rfl) (by kernel_rfl) H) (fun x38 h_2 w_4 H HA_4 => ?_)
              refine ls_assign (x := x38) (by kernel_rfl) (by kernel_rfl) ?_
              refine ls_nil ?_
              refine then_normal ?_
              refine fr_eq (b := ⟨([x0, x1, x2, undef, undef, undef, x38, x7, undef, undef, undef, x0, x12, x13, x13, (D 0), (D 1), (D 2), x18, undef, x7, x1, x22, x23, (D_1 5), (D_1 6), x1, x7, x28, x29, x30, x30, (D_2 0), (D_2 1), (D_2 2), (D_2 3), (D_2 4), x37, x38, undef, undef, undef, undef, undef, undef, undef, undef, undef, undef, undef] ++ [undef, undef, undef, undef, undef, undef, undef, undef, undef, undef, undef, undef, undef, undef, undef, undef, undef, undef, undef, undef, undef, undef, undef, undef, undef, undef, undef, undef, undef, undef, undef, undef, undef, undef, undef, undef, undef, undef, undef, undef, undef]).toArray, []⟩) (by kernel_rfl) ?_
              refine wp_ret ?_
              refine block_ret ?_
              refine then_ret ?_
              refine then_ret ?_
              refine block_ret ?_
              refine then_ret ?_
              exact end1 (Try.results10) (by kernel_rfl) (by kernel_rfl) HA_4 H _ (.inr rfl)
            · refine wp_skip ?_
              refine block_normal ?_
              refine then_normal ?_
              refine fr_eq (b := ⟨([x0, x1, x2, undef, undef, undef, (D_1 0), x7, undef, undef, undef, x0, x12, x13, x13, (D 0), (D 1), (D 2), x18, undef, x7, x1, x22, x23, (D_1 5), (D_1 6), x1, x7, x28, x29, x30, x30, (D_2 0), (D_2 1), (D_2 2), (D_2 3), (D_2 4), x37, (D_1 19), undef, undef, undef, undef, undef, undef, undef, undef, undef, undef, undef] ++ [undef, undef, undef, undef, undef, undef, undef, undef, undef, undef, undef, undef, undef, undef, undef, undef, undef, undef, undef, undef, undef, undef, undef, undef, undef, undef, undef, undef, undef, undef, undef, undef, undef, undef, undef, undef, undef, undef, undef, undef, undef]).toArray, []⟩) (by kernel_rfl) ?_
              refine lwp_list ?_
              refine ls_move (x := x7) (by kernel_rfl) (by kernel_rfl) ?_
              refine ls_p (d := some 25) (by kernel_rfl) (by kernel_rfl) (p_add (by kernel_rfl) (by kernel_rfl) H) (fun x25 H => ?_)
              refine ls_assign (x := x25) (by kernel_rfl) (by kernel_rfl) ?_
              refine ls_nil ?_
              exact ⟨⟨(fun i => ([(D_1 0), x7, x1, x22, x23, x7, x25, x1, x7, x28, x29, x30, x30, (D_2 0), (D_2 1), (D_2 2), (D_2 3), (D_2 4), x37, (D_1 19)]).getD i undef), x25, h_1, by kernel_rfl, HA_3, H.1⟩, loop_lt HA_3.heap HA_2.heap (by kernel_rfl) (by kernel_rfl) H.2⟩
        · refine wp_exit ?_
          refine then_exit ?_
          refine then_exit ?_
          refine block_exit ?_
          refine then_normal ?_
          refine fr_eq (b := ⟨([x0, x1, x2, undef, undef, undef, (D_1 0), x7, undef, undef, undef, x0, x12, x13, x13, (D 0), (D 1), (D 2), x18, undef, x7, x1, x22, x23, (D_1 5), (D_1 6), (D_1 7), (D_1 8), (D_1 9), (D_1 10), (D_1 11), (D_1 12), (D_1 13), (D_1 14), (D_1 15), (D_1 16), (D_1 17), (D_1 18), (D_1 19), undef, undef, undef, undef, undef, undef, undef, undef, undef, undef, undef] ++ [undef, undef, undef, undef, undef, undef, undef, undef, undef, undef, undef, undef, undef, undef, undef, undef, undef, undef, undef, undef, undef, undef, undef, undef, undef, undef, undef, undef, undef, undef, undef, undef, undef, undef, undef, undef, undef, undef, undef, undef, undef]).toArray, []⟩) (by kernel_rfl) ?_
          refine wp_seq ?_
          refine lwp_list ?_
          refine ls_d (d := some 39) (by kernel_rfl) (by kernel_rfl) HA_2 (d_slit (zc := #[]) Try.underlying56 Try.sizeOf5 (by decide) (.inl ⟨(by kernel_rfl), (by kernel_rfl)⟩) (by kernel_rfl) (by kernel_rfl) H) (fun x39 h_3 w_5 H HA_5 => ?_)
          refine ls_move (x := x0) (by kernel_rfl) (by kernel_rfl) ?_
          refine ls_d (d := some 41) (by kernel_rfl) (by kernel_rfl) HA_5 (d_app (z := #[.int .u8 0]) Try.underlying56 Try.underlying56 (.inl ⟨_, rfl⟩) Try.typeInfo5 (by kernel_rfl) Try.sizeOf5 Try.zeroValue5 (by kernel_rfl) (by kernel_rfl) (by kernel_rfl) H) (fun x41 h_4 w_6 H HA_6 => ?_)
          refine ls_d (d := some 42) (by kernel_rfl) (by kernel_rfl) HA_6 (d_slit (zc := #[.int .u8 0]) Try.underlying56 Try.sizeOf5 (by decide) (.inr ⟨by decide, _, Try.zeroValue5, (by kernel_rfl)⟩) (by kernel_rfl) (by kernel_rfl) H) (fun x42 h_5 w_7 H HA_7 => ?_)
          refine ls_d (d := some 43) (by kernel_rfl) (by kernel_rfl) HA_7 (d_app (z := #[.int .u8 0]) Try.underlying56 Try.underlying56 (.inl ⟨_, rfl⟩) Try.typeInfo5 (by kernel_rfl) Try.sizeOf5 Try.zeroValue5 (by kernel_rfl) (by kernel_rfl) (by kernel_rfl) H) (fun x43 h_6 w_8 H HA_8 => ?_)
          refine ls_move (x := x1) (by kernel_rfl) (by kernel_rfl) ?_
          refine ls_fr (b := ⟨([x0, x1, x2, undef, undef, undef, (D_1 0), x7, undef, undef, undef, x0, x12, x13, x13, (D 0), (D 1), (D 2), x18, undef, x7, x1, x22, x23, (D_1 5), (D_1 6), (D_1 7), (D_1 8), (D_1 9), (D_1 10), (D_1 11), (D_1 12), (D_1 13), (D_1 14), (D_1 15), (D_1 16), (D_1 17), (D_1 18), (D_1 19), x39, x0, x41, x42, x43, x1, undef, undef, undef, undef, undef] ++ [undef, undef, undef, undef, undef, undef, undef, undef, undef, undef, undef, undef, undef, undef, undef, undef, undef, undef, undef, undef, undef, undef, undef, undef, undef, undef, undef, undef, undef, undef, undef, undef, undef, undef, undef, undef, undef, undef, undef, undef, undef]).toArray, []⟩) (by kernel_rfl) ?_
          refine ls_d (d := some 45) (by kernel_rfl) (by kernel_rfl) HA_8 (d_app (z := #[.int .u8 0]) Try.underlying56 Try.underlying56 (.inl ⟨_, rfl⟩) Try.typeInfo5 (by kernel_rfl) Try.sizeOf5 Try.zeroValue5 (by kernel_rfl) (by kernel_rfl) (by kernel_rfl) H) (fun x45 h_7 w_9 H HA_9 => ?_)
          refine ls_assign (x := x45) (by kernel_rfl) (by kernel_rfl) ?_
          refine ls_nil ?_
          refine then_normal ?_
          refine fr_eq (b := ⟨([x0, x1, x2, undef, undef, undef, (D_1 0), x7, x45, undef, undef, x0, x12, x13, x13, (D 0), (D 1), (D 2), x18, undef, x7, x1, x22, x23, (D_1 5), (D_1 6), (D_1 7), (D_1 8), (D_1 9), (D_1 10), (D_1 11), (D_1 12), (D_1 13), (D_1 14), (D_1 15), (D_1 16), (D_1 17), (D_1 18), (D_1 19), x39, x0, x41, x42, x43, x1, x45, undef, undef, undef, undef] ++ [undef, undef, undef, undef, undef, undef, undef, undef, undef, undef, undef, undef, undef, undef, undef, undef, undef, undef, undef, undef, undef, undef, undef, undef, undef, undef, undef, undef, undef, undef, undef, undef, undef, undef, undef, undef, undef, undef, undef, undef, undef]).toArray, []⟩) (by kernel_rfl) ?_
          refine wp_seq ?_
          refine lwp_list ?_
          refine ls_move (x := x2) (by kernel_rfl) (by kernel_rfl) ?_
          refine ls_p (d := some 48) (by kernel_rfl) (by kernel_rfl) (p_conv Try.underlying5 Try.underlying3 (by kernel_rfl) H) (fun x48 H => ?_)
          refine ls_move (x := x45) (by kernel_rfl) (by kernel_rfl) ?_
          refine ls_d (d := some 50) (by kernel_rfl) (by kernel_rfl) HA_9 (d_call (by kernel_rfl) (by kernel_rfl) H) (fun x50 h_8 w_10 H HA_10 => ?_)
          refine ls_move (x := x50) (by kernel_rfl) (by kernel_rfl) ?_
          refine ls_p (d := some 51) (by kernel_rfl) (by kernel_rfl) (p_tup (by kernel_rfl) H) (fun x51 H => ?_)
          refine ls_fr (b := ⟨([x0, x1, x2, undef, undef, undef, (D_1 0), x7, x45, undef, undef, x0, x12, x13, x13, (D 0), (D 1), (D 2), x18, undef, x7, x1, x22, x23, (D_1 5), (D_1 6), (D_1 7), (D_1 8), (D_1 9), (D_1 10), (D_1 11), (D_1 12), (D_1 13), (D_1 14), (D_1 15), (D_1 16), (D_1 17), (D_1 18), (D_1 19), x39, x0, x41, x42, x43, x1, x45, x50, x2, x48, x45] ++ [x50, x51, undef, undef, undef, undef, undef, undef, undef, undef, undef, undef, undef, undef, undef, undef, undef, undef, undef, undef, undef, undef, undef, undef, undef, undef, undef, undef, undef, undef, undef, undef, undef, undef, undef, undef, undef, undef, undef, undef, undef]).toArray, []⟩) (by kernel_rfl) ?_
          refine ls_p (d := some 52) (by kernel_rfl) (by kernel_rfl) (p_tup (by kernel_rfl) H) (fun x52 H => ?_)
          refine ls_assign (x := x51) (by kernel_rfl) (by kernel_rfl) ?_
          refine ls_assign (x := x52) (by kernel_rfl) (by kernel_rfl) ?_
          refine ls_nil ?_
          refine then_normal ?_
          refine fr_eq (b := ⟨([x0, x1, x2, undef, undef, undef, (D_1 0), x7, x45, x51, x52, x0, x12, x13, x13, (D 0), (D 1), (D 2), x18, undef, x7, x1, x22, x23, (D_1 5), (D_1 6), (D_1 7), (D_1 8), (D_1 9), (D_1 10), (D_1 11), (D_1 12), (D_1 13), (D_1 14), (D_1 15), (D_1 16), (D_1 17), (D_1 18), (D_1 19), x39, x0, x41, x42, x43, x1, x45, x50, x2, x48, x45] ++ [x50, x51, x52, undef, undef, undef, undef, undef, undef, undef, undef, undef, undef, undef, undef, undef, undef, undef, undef, undef, undef, undef, undef, undef, undef, undef, undef, undef, undef, undef, undef, undef, undef, undef, undef, undef, undef, undef, undef, undef, undef]).toArray, []⟩) (by kernel_rfl) ?_
          refine wp_seq ?_
          refine lwp_list ?_
          refine ls_move (x := x52) (by kernel_rfl) (by kernel_rfl) ?_
          refine ls_move (x := x1) (by kernel_rfl) (by kernel_rfl) ?_
          refine ls_p (d := some 55) (by kernel_rfl) (by kernel_rfl) (p_len Try.underlying56 (by kernel_rfl) H) (fun x55 H => ?_)
          refine ls_p (d := some 56) (by kernel_rfl) (by kernel_rfl) (p_sEq (by kernel_rfl) (by kernel_rfl) H) (fun x56 H => ?_)
          refine ls_move (x := x56) (by kernel_rfl) (by kernel_rfl) ?_
          refine ls_and [(), (), (), (), (), (), ()] (fun K a w => ∃ (D_3 : Nat → Value) (x64 : Value), a = ⟨([x0, x1, x2, undef, undef, undef, (D_1 0), x7, x45, x51, x52, x0, x12, x13, x13, (D 0), (D 1), (D 2), x18, undef, x7, x1, x22, x23, (D_1 5), (D_1 6), (D_1 7), (D_1 8), (D_1 9), (D_1 10), (D_1 11), (D_1 12), (D_1 13), (D_1 14), (D_1 15), (D_1 16), (D_1 17), (D_1 18), (D_1 19), x39, x0, x41, x42, x43, x1, x45, x50, x2, x48, x45] ++ [x50, x51, x52, x52, x1, x55, x56, x56, (D_3 0), (D_3 1), (D_3 2), (D_3 3), (D_3 4), (D_3 5), x64, undef, undef, undef, undef, undef, undef, undef, undef, undef, undef, undef, undef, undef, undef, undef, undef, undef, undef, undef, undef, undef, undef, undef, undef, undef, undef]).toArray, []⟩ ∧ At w0 w h_8 ∧ K x64) H (fun hb_4 H => ?_) (fun hb_4 H => ?_) ?_
          · refine ls_move (x := x51) (by rw [hb_4]; kernel_rfl) (by kernel_rfl) ?_
            refine ls_fr (b := ⟨([x0, x1, x2, undef, undef, undef, (D_1 0), x7, x45, x51, x52, x0, x12, x13, x13, (D 0), (D 1), (D 2), x18, undef, x7, x1, x22, x23, (D_1 5), (D_1 6), (D_1 7), (D_1 8), (D_1 9), (D_1 10), (D_1 11), (D_1 12), (D_1 13), (D_1 14), (D_1 15), (D_1 16), (D_1 17), (D_1 18), (D_1 19), x39, x0, x41, x42, x43, x1, x45, x50, x2, x48, x45] ++ [x50, x51, x52, x52, x1, x55, x56, x56, x51, undef, undef, undef, undef, undef, undef, undef, undef, undef, undef, undef, undef, undef, undef, undef, undef, undef, undef, undef, undef, undef, undef, undef, undef, undef, undef, undef, undef, undef, undef, undef, undef]).toArray, []⟩) (by kernel_rfl) ?_
            refine ls_p (d := some 59) (by kernel_rfl) (by rw [hb_4]; kernel_rfl) (p_len Try.underlying56 (by kernel_rfl) H) (fun x59 H => ?_)
            refine ls_move (x := x1) (by rw [hb_4]; kernel_rfl) (by kernel_rfl) ?_
            refine ls_p (d := some 61) (by kernel_rfl) (by rw [hb_4]; kernel_rfl) (p_len Try.underlying56 (by kernel_rfl) H) (fun x61 H => ?_)
            refine ls_p (d := some 62) (by kernel_rfl) (by rw [hb_4]; kernel_rfl) (p_add (by kernel_rfl) (by kernel_rfl) H) (fun x62 H => ?_)
            refine ls_p (d := some 63) (by kernel_rfl) (by rw [hb_4]; kernel_rfl) (p_sGe (by kernel_rfl) (by kernel_rfl) H) (fun x63 H => ?_)
            refine ls_pick_t (x := x63) (by kernel_rfl) (by rw [hb_4]; kernel_rfl) (by kernel_rfl) ?_
            refine ls_nil ?_
            refine then_normal ?_
            exact ⟨(fun i => ([x51, x59, x1, x61, x62, x63]).getD i undef), x63, by kernel_rfl, HA_10, H⟩
          · refine ls_skip (d := some 58) (by kernel_rfl) (by rw [hb_4]; kernel_rfl) ?_
            refine ls_fr (b := ⟨([x0, x1, x2, undef, undef, undef, (D_1 0), x7, x45, x51, x52, x0, x12, x13, x13, (D 0), (D 1), (D 2), x18, undef, x7, x1, x22, x23, (D_1 5), (D_1 6), (D_1 7), (D_1 8), (D_1 9), (D_1 10), (D_1 11), (D_1 12), (D_1 13), (D_1 14), (D_1 15), (D_1 16), (D_1 17), (D_1 18), (D_1 19), x39, x0, x41, x42, x43, x1, x45, x50, x2, x48, x45] ++ [x50, x51, x52, x52, x1, x55, x56, x56, undef, undef, undef, undef, undef, undef, undef, undef, undef, undef, undef, undef, undef, undef, undef, undef, undef, undef, undef, undef, undef, undef, undef, undef, undef, undef, undef, undef, undef, undef, undef, undef, undef]).toArray, []⟩) (by kernel_rfl) ?_
            refine ls_skip (d := some 59) (by kernel_rfl) (by rw [hb_4]; kernel_rfl) ?_
            refine ls_skip (d := some 60) (by kernel_rfl) (by rw [hb_4]; kernel_rfl) ?_
            refine ls_skip (d := some 61) (by kernel_rfl) (by rw [hb_4]; kernel_rfl) ?_
            refine ls_skip (d := some 62) (by kernel_rfl) (by rw [hb_4]; kernel_rfl) ?_
            refine ls_skip (d := some 63) (by kernel_rfl) (by rw [hb_4]; kernel_rfl) ?_
            refine ls_pick_f (y := (.bool false)) (by kernel_rfl) (by rw [hb_4]; kernel_rfl) (by kernel_rfl) ?_
            refine ls_nil ?_
            refine then_normal ?_
            exact ⟨(fun i => ([undef, undef, undef, undef, undef, undef]).getD i undef), (.bool false), by kernel_rfl, HA_10, H⟩
          · rintro _ w_11 ⟨D_3, x64, rfl, HA_11, H⟩
            refine ls_move (x := x64) (by kernel_rfl) (by kernel_rfl) ?_
            refine ls_andh [(), (), (), (), (), (), (), (), (), ()] (fun K a w => ∃ (D_4 : Nat → Value) (x75 : Value) (h_9 : Heap), a = ⟨([x0, x1, x2, undef, undef, undef, (D_1 0), x7, x45, x51, x52, x0, x12, x13, x13, (D 0), (D 1), (D 2), x18, undef, x7, x1, x22, x23, (D_1 5), (D_1 6), (D_1 7), (D_1 8), (D_1 9), (D_1 10), (D_1 11), (D_1 12), (D_1 13), (D_1 14), (D_1 15), (D_1 16), (D_1 17), (D_1 18), (D_1 19), x39, x0, x41, x42, x43, x1, x45, x50, x2, x48, x45] ++ [x50, x51, x52, x52, x1, x55, x56, x56, (D_3 0), (D_3 1), (D_3 2), (D_3 3), (D_3 4), (D_3 5), x64, x64, (D_4 0), (D_4 1), (D_4 2), (D_4 3), (D_4 4), (D_4 5), (D_4 6), (D_4 7), (D_4 8), x75, undef, undef, undef, undef, undef, undef, undef, undef, undef, undef, undef, undef, undef, undef, undef]).toArray, []⟩ ∧ At w0 w h_9 ∧ K x75 h_9) H (fun hb_3 H => ?_) (fun hb_3 H => ?_) ?_
            · refine ls_move (x := x51) (by rw [hb_3]; kernel_rfl) (by kernel_rfl) ?_
              refine ls_move (x := x51) (by rw [hb_3]; kernel_rfl) (by kernel_rfl) ?_
              refine ls_p (d := some 68) (by kernel_rfl) (by rw [hb_3]; kernel_rfl) (p_len Try.underlying56 (by kernel_rfl) H) (fun x68 H => ?_)
              refine ls_move (x := x1) (by rw [hb_3]; kernel_rfl) (by kernel_rfl) ?_
              refine ls_p (d := some 70) (by kernel_rfl) (by rw [hb_3]; kernel_rfl) (p_len Try.underlying56 (by kernel_rfl) H) (fun x70 H => ?_)
              refine ls_fr (b := ⟨([x0, x1, x2, undef, undef, undef, (D_1 0), x7, x45, x51, x52, x0, x12, x13, x13, (D 0), (D 1), (D 2), x18, undef, x7, x1, x22, x23, (D_1 5), (D_1 6), (D_1 7), (D_1 8), (D_1 9), (D_1 10), (D_1 11), (D_1 12), (D_1 13), (D_1 14), (D_1 15), (D_1 16), (D_1 17), (D_1 18), (D_1 19), x39, x0, x41, x42, x43, x1, x45, x50, x2, x48, x45] ++ [x50, x51, x52, x52, x1, x55, x56, x56, (D_3 0), (D_3 1), (D_3 2), (D_3 3), (D_3 4), (D_3 5), x64, x64, x51, x51, x68, x1, x70, undef, undef, undef, undef, undef, undef, undef, undef, undef, undef, undef, undef, undef, undef, undef, undef, undef, undef, undef, undef]).toArray, []⟩) (by kernel_rfl) ?_
              refine ls_p (d := some 71) (by kernel_rfl) (by rw [hb_3]; kernel_rfl) (p_sub (by kernel_rfl) (by kernel_rfl) H) (fun x71 H => ?_)
              refine ls_p (d := some 72) (by kernel_rfl) (by rw [hb_3]; kernel_rfl) (p_sl Try.underlying56 Try.sizeOf5 (by kernel_rfl) (by kernel_rfl) (by kernel_rfl) H) (fun x72 H => ?_)
              refine ls_move (x := x1) (by rw [hb_3]; kernel_rfl) (by kernel_rfl) ?_
              refine ls_d (d := some 74) (by kernel_rfl) (by rw [hb_3]; kernel_rfl) HA_11 (d_call (by kernel_rfl) (by kernel_rfl) H) (fun x74 h_12 w_16 H HA_16 => ?_)
              refine ls_pick_t (x := x74) (by kernel_rfl) (by rw [hb_3]; kernel_rfl) (by kernel_rfl) ?_
              refine ls_nil ?_
              refine then_normal ?_
              exact ⟨(fun i => ([x51, x51, x68, x1, x70, x71, x72, x1, x74]).getD i undef), x74, h_12, by kernel_rfl, HA_16, H⟩
            · refine ls_skip (d := some 66) (by kernel_rfl) (by rw [hb_3]; kernel_rfl) ?_
              refine ls_skip (d := some 67) (by kernel_rfl) (by rw [hb_3]; kernel_rfl) ?_
              refine ls_skip (d := some 68) (by kernel_rfl) (by rw [hb_3]; kernel_rfl) ?_
              refine ls_skip (d := some 69) (by kernel_rfl) (by rw [hb_3]; kernel_rfl) ?_
              refine ls_skip (d := some 70) (by kernel_rfl) (by rw [hb_3]; kernel_rfl) ?_
              refine ls_fr (b := ⟨([x0, x1, x2, undef, undef, undef, (D_1 0), x7, x45, x51, x52, x0, x12, x13, x13, (D 0), (D 1), (D 2), x18, undef, x7, x1, x22, x23, (D_1 5), (D_1 6), (D_1 7), (D_1 8), (D_1 9), (D_1 10), (D_1 11), (D_1 12), (D_1 13), (D_1 14), (D_1 15), (D_1 16), (D_1 17), (D_1 18), (D_1 19), x39, x0, x41, x42, x43, x1, x45, x50, x2, x48, x45] ++ [x50, x51, x52, x52, x1, x55, x56, x56, (D_3 0), (D_3 1), (D_3 2), (D_3 3), (D_3 4), (D_3 5), x64, x64, undef, undef, undef, undef, undef, undef, undef, undef, undef, undef, undef, undef, undef, undef, undef, undef, undef, undef, undef, undef, undef, undef, undef, undef, undef]).toArray, []⟩) (by kernel_rfl) ?_
              refine ls_skip (d := some 71) (by kernel_rfl) (by rw [hb_3]; kernel_rfl) ?_
              refine ls_skip (d := some 72) (by kernel_rfl) (by rw [hb_3]; kernel_rfl) ?_
              refine ls_skip (d := some 73) (by kernel_rfl) (by rw [hb_3]; kernel_rfl) ?_
              refine ls_skip (d := some 74) (by kernel_rfl) (by rw [hb_3]; kernel_rfl) ?_
              refine ls_pick_f (y := (.bool false)) (by kernel_rfl) (by rw [hb_3]; kernel_rfl) (by kernel_rfl) ?_
              refine ls_nil ?_
              refine then_normal ?_
              exact ⟨(fun i => ([undef, undef, undef, undef, undef, undef, undef, undef, undef]).getD i undef), (.bool false), h_8, by kernel_rfl, HA_11, H⟩
            · rintro _ w_12 ⟨D_4, x75, h_9, rfl, HA_12, H⟩
              refine ls_move (x := x75) (by kernel_rfl) (by kernel_rfl) ?_
              refine ls_and [(), (), (), (), (), (), (), (), (), (), ()] (fun K a w => ∃ (D_5 : Nat → Value) (x87 : Value), a = ⟨([x0, x1, x2, undef, undef, undef, (D_1 0), x7, x45, x51, x52, x0, x12, x13, x13, (D 0), (D 1), (D 2), x18, undef, x7, x1, x22, x23, (D_1 5), (D_1 6), (D_1 7), (D_1 8), (D_1 9), (D_1 10), (D_1 11), (D_1 12), (D_1 13), (D_1 14), (D_1 15), (D_1 16), (D_1 17), (D_1 18), (D_1 19), x39, x0, x41, x42, x43, x1, x45, x50, x2, x48, x45] ++ [x50, x51, x52, x52, x1, x55, x56, x56, (D_3 0), (D_3 1), (D_3 2), (D_3 3), (D_3 4), (D_3 5), x64, x64, (D_4 0), (D_4 1), (D_4 2), (D_4 3), (D_4 4), (D_4 5), (D_4 6), (D_4 7), (D_4 8), x75, x75, (D_5 0), (D_5 1), (D_5 2), (D_5 3), (D_5 4), (D_5 5), (D_5 6), (D_5 7), (D_5 8), (D_5 9), x87, undef, undef, undef]).toArray, []⟩ ∧ At w0 w h_9 ∧ K x87) H (fun hb_2 H => ?_) (fun hb_2 H => ?_) ?_
              · refine ls_move (x := x51) (by rw [hb_2]; kernel_rfl) (by kernel_rfl) ?_
                refine ls_move (x := x51) (by rw [hb_2]; kernel_rfl) (by kernel_rfl) ?_
                refine ls_p (d := some 79) (by kernel_rfl) (by rw [hb_2]; kernel_rfl) (p_len Try.underlying56 (by kernel_rfl) H) (fun x79 H => ?_)
                refine ls_move (x := x1) (by rw [hb_2]; kernel_rfl) (by kernel_rfl) ?_
                refine ls_p (d := some 81) (by kernel_rfl) (by rw [hb_2]; kernel_rfl) (p_len Try.underlying56 (by kernel_rfl) H) (fun x81 H => ?_)
                refine ls_fr (b := ⟨([x0, x1, x2, undef, undef, undef, (D_1 0), x7, x45, x51, x52, x0, x12, x13, x13, (D 0), (D 1), (D 2), x18, undef, x7, x1, x22, x23, (D_1 5), (D_1 6), (D_1 7), (D_1 8), (D_1 9), (D_1 10), (D_1 11), (D_1 12), (D_1 13), (D_1 14), (D_1 15), (D_1 16), (D_1 17), (D_1 18), (D_1 19), x39, x0, x41, x42, x43, x1, x45, x50, x2, x48, x45] ++ [x50, x51, x52, x52, x1, x55, x56, x56, (D_3 0), (D_3 1), (D_3 2), (D_3 3), (D_3 4), (D_3 5), x64, x64, (D_4 0), (D_4 1), (D_4 2), (D_4 3), (D_4 4), (D_4 5), (D_4 6), (D_4 7), (D_4 8), x75, x75, x51, x51, x79, x1, x81, undef, undef, undef, undef, undef, undef, undef, undef, undef]).toArray, []⟩) (by kernel_rfl) ?_
                refine ls_p (d := some 82) (by kernel_rfl) (by rw [hb_2]; kernel_rfl) (p_sub (by kernel_rfl) (by kernel_rfl) H) (fun x82 H => ?_)
                refine ls_p (d := some 83) (by kernel_rfl) (by rw [hb_2]; kernel_rfl) (p_sub (by kernel_rfl) (by kernel_rfl) H) (fun x83 H => ?_)
                refine ls_p (d := some 84) (by kernel_rfl) (by rw [hb_2]; kernel_rfl) (p_ixs Try.underlying56 Try.sizeOf5 (by kernel_rfl) (by kernel_rfl) H) (fun x84 H => ?_)
                refine ls_y (d := some 85) (by kernel_rfl) (by rw [hb_2]; kernel_rfl) HA_12 (y_ld Try.isAgg5 (by kernel_rfl) H) (fun x85 H => ?_)
                refine ls_p (d := some 86) (by kernel_rfl) (by rw [hb_2]; kernel_rfl) (p_sEq (by kernel_rfl) (by kernel_rfl) H) (fun x86 H => ?_)
                refine ls_pick_t (x := x86) (by kernel_rfl) (by rw [hb_2]; kernel_rfl) (by kernel_rfl) ?_
                refine ls_nil ?_
                refine then_normal ?_
                exact ⟨(fun i => ([x51, x51, x79, x1, x81, x82, x83, x84, x85, x86]).getD i undef), x86, by kernel_rfl, HA_12, H⟩
              · refine ls_skip (d := some 77) (by kernel_rfl) (by rw [hb_2]; kernel_rfl) ?_
                refine ls_skip (d := some 78) (by kernel_rfl) (by rw [hb_2]; kernel_rfl) ?_
                refine ls_skip (d := some 79) (by kernel_rfl) (by rw [hb_2]; kernel_rfl) ?_
                refine ls_skip (d := some 80) (by kernel_rfl) (by rw [hb_2]; kernel_rfl) ?_
                refine ls_skip (d := some 81) (by kernel_rfl) (by rw [hb_2]; kernel_rfl) ?_
                refine ls_fr (b := ⟨([x0, x1, x2, undef, undef, undef, (D_1 0), x7, x45, x51, x52, x0, x12, x13, x13, (D 0), (D 1), (D 2), x18, undef, x7, x1, x22, x23, (D_1 5), (D_1 6), (D_1 7), (D_1 8), (D_1 9), (D_1 10), (D_1 11), (D_1 12), (D_1 13), (D_1 14), (D_1 15), (D_1 16), (D_1 17), (D_1 18), (D_1 19), x39, x0, x41, x42, x43, x1, x45, x50, x2, x48, x45] ++ [x50, x51, x52, x52, x1, x55, x56, x56, (D_3 0), (D_3 1), (D_3 2), (D_3 3), (D_3 4), (D_3 5), x64, x64, (D_4 0), (D_4 1), (D_4 2), (D_4 3), (D_4 4), (D_4 5), (D_4 6), (D_4 7), (D_4 8), x75, x75, undef, undef, undef, undef, undef, undef, undef, undef, undef, undef, undef, undef, undef, undef]).toArray, []⟩) (by kernel_rfl) ?_
                refine ls_skip (d := some 82) (by kernel_rfl) (by rw [hb_2]; kernel_rfl) ?_
                refine ls_skip (d := some 83) (by kernel_rfl) (by rw [hb_2]; kernel_rfl) ?_
                refine ls_skip (d := some 84) (by kernel_rfl) (by rw [hb_2]; kernel_rfl) ?_
                refine ls_skip (d := some 85) (by kernel_rfl) (by rw [hb_2]; kernel_rfl) ?_
                refine ls_skip (d := some 86) (by kernel_rfl) (by rw [hb_2]; kernel_rfl) ?_
                refine ls_pick_f (y := (.bool false)) (by kernel_rfl) (by rw [hb_2]; kernel_rfl) (by kernel_rfl) ?_
                refine ls_nil ?_
                refine then_normal ?_
                exact ⟨(fun i => ([undef, undef, undef, undef, undef, undef, undef, undef, undef, undef]).getD i undef), (.bool false), by kernel_rfl, HA_12, H⟩
              · rintro _ w_13 ⟨D_5, x87, rfl, HA_13, H⟩
                refine ls_move (x := x87) (by kernel_rfl) (by kernel_rfl) ?_
                refine ls_andh [(), ()] (fun K a w => ∃ (D_6 : Nat → Value) (x90 : Value) (h_10 : Heap), a = ⟨([x0, x1, x2, undef, undef, undef, (D_1 0), x7, x45, x51, x52, x0, x12, x13, x13, (D 0), (D 1), (D 2), x18, undef, x7, x1, x22, x23, (D_1 5), (D_1 6), (D_1 7), (D_1 8), (D_1 9), (D_1 10), (D_1 11), (D_1 12), (D_1 13), (D_1 14), (D_1 15), (D_1 16), (D_1 17), (D_1 18), (D_1 19), x39, x0, x41, x42, x43, x1, x45, x50, x2, x48, x45] ++ [x50, x51, x52, x52, x1, x55, x56, x56, (D_3 0), (D_3 1), (D_3 2), (D_3 3), (D_3 4), (D_3 5), x64, x64, (D_4 0), (D_4 1), (D_4 2), (D_4 3), (D_4 4), (D_4 5), (D_4 6), (D_4 7), (D_4 8), x75, x75, (D_5 0), (D_5 1), (D_5 2), (D_5 3), (D_5 4), (D_5 5), (D_5 6), (D_5 7), (D_5 8), (D_5 9), x87, x87, (D_6 0), x90]).toArray, []⟩ ∧ At w0 w h_10 ∧ K x90 h_10) H (fun hb_1 H => ?_) (fun hb_1 H => ?_) ?_
                · refine ls_d (d := some 89) (by kernel_rfl) (by rw [hb_1]; kernel_rfl) HA_13 (d_call (by kernel_rfl) (by kernel_rfl) H) (fun x89 h_11 w_15 H HA_15 => ?_)
                  refine ls_pick_t (x := x89) (by kernel_rfl) (by rw [hb_1]; kernel_rfl) (by kernel_rfl) ?_
                  refine ls_nil ?_
                  refine then_normal ?_
                  exact ⟨(fun i => ([x89]).getD i undef), x89, h_11, by kernel_rfl, HA_15, H⟩
                · refine ls_skip (d := some 89) (by kernel_rfl) (by rw [hb_1]; kernel_rfl) ?_
                  refine ls_pick_f (y := (.bool false)) (by kernel_rfl) (by rw [hb_1]; kernel_rfl) (by kernel_rfl) ?_
                  refine ls_nil ?_
                  refine then_normal ?_
                  exact ⟨(fun i => ([undef]).getD i undef), (.bool false), h_9, by kernel_rfl, HA_13, H⟩
                · rintro _ w_14 ⟨D_6, x90, h_10, rfl, HA_14, H⟩
                  refine ls_assign (x := x90) (by kernel_rfl) (by kernel_rfl) ?_
                  refine ls_nil ?_
                  refine then_normal ?_
                  refine fr_eq (b := ⟨([x0, x1, x2, undef, undef, undef, x90, x7, x45, x51, x52, x0, x12, x13, x13, (D 0), (D 1), (D 2), x18, undef, x7, x1, x22, x23, (D_1 5), (D_1 6), (D_1 7), (D_1 8), (D_1 9), (D_1 10), (D_1 11), (D_1 12), (D_1 13), (D_1 14), (D_1 15), (D_1 16), (D_1 17), (D_1 18), (D_1 19), x39, x0, x41, x42, x43, x1, x45, x50, x2, x48, x45] ++ [x50, x51, x52, x52, x1, x55, x56, x56, (D_3 0), (D_3 1), (D_3 2), (D_3 3), (D_3 4), (D_3 5), x64, x64, (D_4 0), (D_4 1), (D_4 2), (D_4 3), (D_4 4), (D_4 5), (D_4 6), (D_4 7), (D_4 8), x75, x75, (D_5 0), (D_5 1), (D_5 2), (D_5 3), (D_5 4), (D_5 5), (D_5 6), (D_5 7), (D_5 8), (D_5 9), x87, x87, (D_6 0), x90]).toArray, []⟩) (by kernel_rfl) ?_
                  refine wp_ret ?_
                  exact end1 (Try.results10) (by kernel_rfl) (by kernel_rfl) HA_14 H _ (.inr rfl)

end Go.Proofs.Ythhpieidlpjbmaa
