/- Texts in one. -/
import Derived.Test.YtmhhjpfkipficaaDoorFnC
import Derived.Test.YtmhhjpfkipficaaDoorKt4
section
/- The shallow reading of one function, and that the function does it. Written by a program. -/
set_option linter.unusedVariables false
namespace Go.Proofs.YtmhhjpfkipficaaDoor
open Go Go.HW

def betonylaw24_ScreenText_j3 (R : Value → Heap → Prop) (next : Value → Heap → Prop) (x14 x15 : Value) (h_7 : Heap) : Prop :=
  sOff x15 0 fun x90 =>
  sLd h_7 x90 fun x91 =>
  sRem .i64 x14 (.int .i64 26) fun x93 =>
  sAdd .i64 (.int .i64 97) x93 fun x94 =>
  sConv .i32 x94 fun x95 =>
  sNe x91 x95 fun x96 =>
  sIf x96 (R (.bool false) h_7) (sAdd .i64 x14 (.int .i64 1) fun x63 =>
  next x63 h_7)
def betonylaw24_ScreenText_l2 (R : Value → Heap → Prop) (x20 x27 x30 x45 : Value) (next : Value → Heap → Prop) (x14 : Value) (h_4 : Heap) : Prop :=
  sLt x14 x27 fun x61 =>
  sIf x61 (sBuild #[.int .i32 0, .int .i64 0, .int .i64 0, .int .i64 0] [] fun x64 =>
  sNew h_4 #[.int .i32 0, .int .i64 0, .int .i64 0, .int .i64 0] 31 fun x15 h_5 => 
  sStN h_5 x15 x64 4 fun h_6 => 
  sQuo .i64 x14 x20 fun x67 =>
  sLen x45 fun x70 =>
  sLt x67 x70 fun x71 =>
  sIf x71 (sIxS x45 x67 1 fun x74 =>
  sLd h_6 x74 fun x75 =>
  sRem .i64 x14 x20 fun x78 =>
  sIxS x75 x78 4 fun x79 =>
  sLdN h_6 x79 4 fun x80 =>
  sStN h_6 x15 x80 4 fun h_8 => 
  betonylaw24_ScreenText_j3 R next x14 x15 h_8) (sRem .i64 x14 x20 fun x84 =>
  sLen x45 fun x87 =>
  sSub .i64 x67 x87 fun x88 =>
  screen_Screen_At_c x30 x84 x88 h_6 fun x89 h_9 => 
  sStN h_9 x15 x89 4 fun h_10 => 
  betonylaw24_ScreenText_j3 R next x14 x15 h_10)) (betonylaw24_awake_c  h_4 fun x97 h_11 => 
  R x97 h_11)
def betonylaw24_ScreenText_l1 (R : Value → Heap → Prop) (x20 x24 x27 x30 : Value) (next : Value → Heap → Prop) (x11 : Value) (h_1 : Heap) : Prop :=
  sLt x11 x27 fun x35 =>
  sIf x35 (sRem .i64 x11 (.int .i64 26) fun x40 =>
  sAdd .i64 (.int .i64 97) x40 fun x41 =>
  sConv .i32 x41 fun x42 =>
  screen_Screen_Put_c x30 x42 h_1 fun x43 h_2 => 
  sAdd .i64 x11 (.int .i64 1) fun x37 =>
  next x37 h_2) (screen_Screen_Off_c x30 h_1 fun x45 h_3 => 
  sAdd .i64 x27 x20 fun x48 =>
  sSub .i64 x48 (.int .i64 1) fun x49 =>
  sQuo .i64 x49 x20 fun x51 =>
  sLen x45 fun x53 =>
  sSub .i64 x51 x24 fun x56 =>
  sMax (.int .i64 0) x56 fun x57 =>
  sNe x53 x57 fun x58 =>
  sIf x58 (R (.bool false) h_3) (sLoop (S := Value) (fun nxt s h => betonylaw24_ScreenText_l2 R x20 x27 x30 x45 (fun x14' h => nxt x14' h) s h) (.int .i64 0) h_3))
def betonylaw24_ScreenText_S (x0 x1 x2 : Value) (h : Heap) (R : Value → Heap → Prop) : Prop :=
  sConv .i64 x0 fun x18 =>
  sRem .i64 x18 (.int .i64 16) fun x19 =>
  sAdd .i64 (.int .i64 1) x19 fun x20 =>
  sConv .i64 x1 fun x22 =>
  sRem .i64 x22 (.int .i64 16) fun x23 =>
  sAdd .i64 (.int .i64 1) x23 fun x24 =>
  sConv .i64 x2 fun x26 =>
  sRem .i64 x26 (.int .i64 400) fun x27 =>
  screen_New_c x20 x24 h fun x30 h => 
  sEqlNil x30 fun x32 =>
  sIf x32 (R (.bool false) h) (sLoop (S := Value) (fun nxt s h => betonylaw24_ScreenText_l1 R x20 x24 x27 x30 (fun x11' h => nxt x11' h) s h) (.int .i64 0) h)
set_option maxRecDepth 100000 in
theorem betonylaw24_ScreenText_runs {x0 x1 x2 : Value} {h : Heap} {R : Value → Heap → Prop} (H : betonylaw24_ScreenText_S x0 x1 x2 h R) : betonylaw24_ScreenText_c x0 x1 x2 h R := by
  unfold betonylaw24_ScreenText_S at H
  refine runs_of (b := ⟨([x0, x1, x2, undef, undef, undef, undef, undef, undef, undef, undef, undef, undef, undef, undef, undef, undef, undef, undef, undef, undef, undef, undef, undef, undef, undef, undef, undef, undef, undef, undef, undef, undef, undef, undef, undef, undef, undef, undef, undef, undef, undef, undef, undef, undef, undef, undef, undef, undef, undef] ++ [undef, undef, undef, undef, undef, undef, undef, undef, undef, undef, undef, undef, undef, undef, undef, undef, undef, undef, undef, undef, undef, undef, undef, undef, undef, undef, undef, undef, undef, undef, undef, undef, undef, undef, undef, undef, undef, undef, undef, undef, undef, undef, undef, undef, undef, undef, undef, undef]).toArray, []⟩) Tryd.call3 Tryd.func3 rfl (by kernel_rfl) (fun w0 HA => ?_)
  refine wp_seq ?_
  refine lwp_list ?_
  refine ls_assign (x := (.bool false)) (by kernel_rfl) (by kernel_rfl) ?_
  refine ls_nil ?_
  refine then_normal ?_
  refine fr_eq (b := ⟨([x0, x1, x2, undef, undef, undef, (.bool false), undef, undef, undef, undef, undef, undef, undef, undef, undef, undef, undef, undef, undef, undef, undef, undef, undef, undef, undef, undef, undef, undef, undef, undef, undef, undef, undef, undef, undef, undef, undef, undef, undef, undef, undef, undef, undef, undef, undef, undef, undef, undef, undef] ++ [undef, undef, undef, undef, undef, undef, undef, undef, undef, undef, undef, undef, undef, undef, undef, undef, undef, undef, undef, undef, undef, undef, undef, undef, undef, undef, undef, undef, undef, undef, undef, undef, undef, undef, undef, undef, undef, undef, undef, undef, undef, undef, undef, undef, undef, undef, undef, undef]).toArray, []⟩) (by kernel_rfl) ?_
  refine wp_seq ?_
  refine lwp_list ?_
  refine ls_move (x := x0) (by kernel_rfl) (by kernel_rfl) ?_
  refine ls_p (d := some 18) (by kernel_rfl) (by kernel_rfl) (p_conv Tryd.underlying5 Tryd.underlying3 (by kernel_rfl) H) (fun x18 H => ?_)
  refine ls_p (d := some 19) (by kernel_rfl) (by kernel_rfl) (p_rem (by kernel_rfl) (by kernel_rfl) H) (fun x19 H => ?_)
  refine ls_p (d := some 20) (by kernel_rfl) (by kernel_rfl) (p_add (by kernel_rfl) (by kernel_rfl) H) (fun x20 H => ?_)
  refine ls_move (x := x1) (by kernel_rfl) (by kernel_rfl) ?_
  refine ls_p (d := some 22) (by kernel_rfl) (by kernel_rfl) (p_conv Tryd.underlying5 Tryd.underlying3 (by kernel_rfl) H) (fun x22 H => ?_)
  refine ls_fr (b := ⟨([x0, x1, x2, undef, undef, undef, (.bool false), undef, undef, undef, undef, undef, undef, undef, undef, undef, undef, x0, x18, x19, x20, x1, x22, undef, undef, undef, undef, undef, undef, undef, undef, undef, undef, undef, undef, undef, undef, undef, undef, undef, undef, undef, undef, undef, undef, undef, undef, undef, undef, undef] ++ [undef, undef, undef, undef, undef, undef, undef, undef, undef, undef, undef, undef, undef, undef, undef, undef, undef, undef, undef, undef, undef, undef, undef, undef, undef, undef, undef, undef, undef, undef, undef, undef, undef, undef, undef, undef, undef, undef, undef, undef, undef, undef, undef, undef, undef, undef, undef, undef]).toArray, []⟩) (by kernel_rfl) ?_
  refine ls_p (d := some 23) (by kernel_rfl) (by kernel_rfl) (p_rem (by kernel_rfl) (by kernel_rfl) H) (fun x23 H => ?_)
  refine ls_p (d := some 24) (by kernel_rfl) (by kernel_rfl) (p_add (by kernel_rfl) (by kernel_rfl) H) (fun x24 H => ?_)
  refine ls_assign (x := x20) (by kernel_rfl) (by kernel_rfl) ?_
  refine ls_assign (x := x24) (by kernel_rfl) (by kernel_rfl) ?_
  refine ls_nil ?_
  refine then_normal ?_
  refine fr_eq (b := ⟨([x0, x1, x2, undef, undef, undef, (.bool false), x20, x24, undef, undef, undef, undef, undef, undef, undef, undef, x0, x18, x19, x20, x1, x22, x23, x24, undef, undef, undef, undef, undef, undef, undef, undef, undef, undef, undef, undef, undef, undef, undef, undef, undef, undef, undef, undef, undef, undef, undef, undef, undef] ++ [undef, undef, undef, undef, undef, undef, undef, undef, undef, undef, undef, undef, undef, undef, undef, undef, undef, undef, undef, undef, undef, undef, undef, undef, undef, undef, undef, undef, undef, undef, undef, undef, undef, undef, undef, undef, undef, undef, undef, undef, undef, undef, undef, undef, undef, undef, undef, undef]).toArray, []⟩) (by kernel_rfl) ?_
  refine wp_seq ?_
  refine lwp_list ?_
  refine ls_move (x := x2) (by kernel_rfl) (by kernel_rfl) ?_
  refine ls_p (d := some 26) (by kernel_rfl) (by kernel_rfl) (p_conv Tryd.underlying22 Tryd.underlying3 (by kernel_rfl) H) (fun x26 H => ?_)
  refine ls_p (d := some 27) (by kernel_rfl) (by kernel_rfl) (p_rem (by kernel_rfl) (by kernel_rfl) H) (fun x27 H => ?_)
  refine ls_assign (x := x27) (by kernel_rfl) (by kernel_rfl) ?_
  refine ls_nil ?_
  refine then_normal ?_
  refine fr_eq (b := ⟨([x0, x1, x2, undef, undef, undef, (.bool false), x20, x24, x27, undef, undef, undef, undef, undef, undef, undef, x0, x18, x19, x20, x1, x22, x23, x24, x2, x26, x27, undef, undef, undef, undef, undef, undef, undef, undef, undef, undef, undef, undef, undef, undef, undef, undef, undef, undef, undef, undef, undef, undef] ++ [undef, undef, undef, undef, undef, undef, undef, undef, undef, undef, undef, undef, undef, undef, undef, undef, undef, undef, undef, undef, undef, undef, undef, undef, undef, undef, undef, undef, undef, undef, undef, undef, undef, undef, undef, undef, undef, undef, undef, undef, undef, undef, undef, undef, undef, undef, undef, undef]).toArray, []⟩) (by kernel_rfl) ?_
  refine wp_seq ?_
  refine lwp_list ?_
  refine ls_move (x := x20) (by kernel_rfl) (by kernel_rfl) ?_
  refine ls_move (x := x24) (by kernel_rfl) (by kernel_rfl) ?_
  refine ls_d (d := some 30) (by kernel_rfl) (by kernel_rfl) HA (d_call (by kernel_rfl) (by kernel_rfl) H) (fun x30 h w H HA => ?_)
  refine ls_assign (x := x30) (by kernel_rfl) (by kernel_rfl) ?_
  refine ls_nil ?_
  refine then_normal ?_
  refine fr_eq (b := ⟨([x0, x1, x2, undef, undef, undef, (.bool false), x20, x24, x27, x30, undef, undef, undef, undef, undef, undef, x0, x18, x19, x20, x1, x22, x23, x24, x2, x26, x27, x20, x24, x30, undef, undef, undef, undef, undef, undef, undef, undef, undef, undef, undef, undef, undef, undef, undef, undef, undef, undef, undef] ++ [undef, undef, undef, undef, undef, undef, undef, undef, undef, undef, undef, undef, undef, undef, undef, undef, undef, undef, undef, undef, undef, undef, undef, undef, undef, undef, undef, undef, undef, undef, undef, undef, undef, undef, undef, undef, undef, undef, undef, undef, undef, undef, undef, undef, undef, undef, undef, undef]).toArray, []⟩) (by kernel_rfl) ?_
  refine wp_seq ?_
  refine wp_seq ?_
  refine lwp_list ?_
  refine ls_move (x := x30) (by kernel_rfl) (by kernel_rfl) ?_
  refine ls_p (d := some 32) (by kernel_rfl) (by kernel_rfl) (p_eqlNil Tryd.underlying23 (by kernel_rfl) (by kernel_rfl) H) (fun x32 H => ?_)
  refine ls_nil ?_
  refine then_normal ?_
  refine fr_eq (b := ⟨([x0, x1, x2, undef, undef, undef, (.bool false), x20, x24, x27, x30, undef, undef, undef, undef, undef, undef, x0, x18, x19, x20, x1, x22, x23, x24, x2, x26, x27, x20, x24, x30, x30, x32, undef, undef, undef, undef, undef, undef, undef, undef, undef, undef, undef, undef, undef, undef, undef, undef, undef] ++ [undef, undef, undef, undef, undef, undef, undef, undef, undef, undef, undef, undef, undef, undef, undef, undef, undef, undef, undef, undef, undef, undef, undef, undef, undef, undef, undef, undef, undef, undef, undef, undef, undef, undef, undef, undef, undef, undef, undef, undef, undef, undef, undef, undef, undef, undef, undef, undef]).toArray, []⟩) (by kernel_rfl) ?_
  refine wp_if rfl H (fun H => ?_) (fun H => ?_)
  · refine wp_seq ?_
    refine lwp_list ?_
    refine ls_assign (x := (.bool false)) (by kernel_rfl) (by kernel_rfl) ?_
    refine ls_nil ?_
    refine then_normal ?_
    refine fr_eq (b := ⟨([x0, x1, x2, undef, undef, undef, (.bool false), x20, x24, x27, x30, undef, undef, undef, undef, undef, undef, x0, x18, x19, x20, x1, x22, x23, x24, x2, x26, x27, x20, x24, x30, x30, x32, undef, undef, undef, undef, undef, undef, undef, undef, undef, undef, undef, undef, undef, undef, undef, undef, undef] ++ [undef, undef, undef, undef, undef, undef, undef, undef, undef, undef, undef, undef, undef, undef, undef, undef, undef, undef, undef, undef, undef, undef, undef, undef, undef, undef, undef, undef, undef, undef, undef, undef, undef, undef, undef, undef, undef, undef, undef, undef, undef, undef, undef, undef, undef, undef, undef, undef]).toArray, []⟩) (by kernel_rfl) ?_
    refine wp_ret ?_
    refine then_ret ?_
    exact end1 (Tryd.results3) (by kernel_rfl) (by kernel_rfl) HA H _ (.inr rfl)
  · refine wp_skip ?_
    refine then_normal ?_
    refine fr_eq (b := ⟨([x0, x1, x2, undef, undef, undef, (.bool false), x20, x24, x27, x30, undef, undef, undef, undef, undef, undef, x0, x18, x19, x20, x1, x22, x23, x24, x2, x26, x27, x20, x24, x30, x30, x32, undef, undef, undef, undef, undef, undef, undef, undef, undef, undef, undef, undef, undef, undef, undef, undef, undef] ++ [undef, undef, undef, undef, undef, undef, undef, undef, undef, undef, undef, undef, undef, undef, undef, undef, undef, undef, undef, undef, undef, undef, undef, undef, undef, undef, undef, undef, undef, undef, undef, undef, undef, undef, undef, undef, undef, undef, undef, undef, undef, undef, undef, undef, undef, undef, undef, undef]).toArray, []⟩) (by kernel_rfl) ?_
    refine wp_seq ?_
    refine wp_seq ?_
    refine lwp_list ?_
    refine ls_assign (x := (.int .i64 0)) (by kernel_rfl) (by kernel_rfl) ?_
    refine ls_nil ?_
    refine then_normal ?_
    refine fr_eq (b := ⟨([x0, x1, x2, undef, undef, undef, (.bool false), x20, x24, x27, x30, (.int .i64 0), undef, undef, undef, undef, undef, x0, x18, x19, x20, x1, x22, x23, x24, x2, x26, x27, x20, x24, x30, x30, x32, undef, undef, undef, undef, undef, undef, undef, undef, undef, undef, undef, undef, undef, undef, undef, undef, undef] ++ [undef, undef, undef, undef, undef, undef, undef, undef, undef, undef, undef, undef, undef, undef, undef, undef, undef, undef, undef, undef, undef, undef, undef, undef, undef, undef, undef, undef, undef, undef, undef, undef, undef, undef, undef, undef, undef, undef, undef, undef, undef, undef, undef, undef, undef, undef, undef, undef]).toArray, []⟩) (by kernel_rfl) ?_
    refine wp_block ?_
    obtain ⟨I, m, H0, HB⟩ := H
    refine wp_loop (fun a w => ∃ (D : Nat → Value) (x11 : Value) (h_1 : Heap), a = ⟨([x0, x1, x2, undef, undef, undef, (.bool false), x20, x24, x27, x30, x11, undef, undef, undef, undef, undef, x0, x18, x19, x20, x1, x22, x23, x24, x2, x26, x27, x20, x24, x30, x30, x32, (D 0), (D 1), (D 2), (D 3), (D 4), (D 5), (D 6), (D 7), (D 8), (D 9), (D 10), undef, undef, undef, undef, undef, undef] ++ [undef, undef, undef, undef, undef, undef, undef, undef, undef, undef, undef, undef, undef, undef, undef, undef, undef, undef, undef, undef, undef, undef, undef, undef, undef, undef, undef, undef, undef, undef, undef, undef, undef, undef, undef, undef, undef, undef, undef, undef, undef, undef, undef, undef, undef, undef, undef, undef]).toArray, []⟩ ∧ At w0 w h_1 ∧ I x11 h_1) (fun a w => m (a.tmps.getD 11 undef) w.heap) ?_ ?_
    · exact ⟨(fun i => ([undef, undef, undef, undef, undef, undef, undef, undef, undef, undef, undef]).getD i undef), (.int .i64 0), h, by kernel_rfl, HA, H0⟩
    · rintro _ w_1 ⟨D, x11, h_1, rfl, HA_1, HI⟩
      have H : betonylaw24_ScreenText_l1 R x20 x24 x27 x30 (fun x11' h' => I x11' h' ∧ m x11' h' < m x11 h_1) x11 h_1 := HB x11 h_1 HI
      clear HB H0 HI
      unfold betonylaw24_ScreenText_l1 at H
      refine wp_seq ?_
      refine wp_seq ?_
      refine lwp_list ?_
      refine ls_move (x := x11) (by kernel_rfl) (by kernel_rfl) ?_
      refine ls_move (x := x27) (by kernel_rfl) (by kernel_rfl) ?_
      refine ls_p (d := some 35) (by kernel_rfl) (by kernel_rfl) (p_sLt (by kernel_rfl) (by kernel_rfl) H) (fun x35 H => ?_)
      refine ls_nil ?_
      refine then_normal ?_
      refine fr_eq (b := ⟨([x0, x1, x2, undef, undef, undef, (.bool false), x20, x24, x27, x30, x11, undef, undef, undef, undef, undef, x0, x18, x19, x20, x1, x22, x23, x24, x2, x26, x27, x20, x24, x30, x30, x32, x11, x27, x35, (D 3), (D 4), (D 5), (D 6), (D 7), (D 8), (D 9), (D 10), undef, undef, undef, undef, undef, undef] ++ [undef, undef, undef, undef, undef, undef, undef, undef, undef, undef, undef, undef, undef, undef, undef, undef, undef, undef, undef, undef, undef, undef, undef, undef, undef, undef, undef, undef, undef, undef, undef, undef, undef, undef, undef, undef, undef, undef, undef, undef, undef, undef, undef, undef, undef, undef, undef, undef]).toArray, []⟩) (by kernel_rfl) ?_
      refine wp_if rfl H (fun H => ?_) (fun H => ?_)
      · refine wp_skip ?_
        refine then_normal ?_
        refine fr_eq (b := ⟨([x0, x1, x2, undef, undef, undef, (.bool false), x20, x24, x27, x30, x11, undef, undef, undef, undef, undef, x0, x18, x19, x20, x1, x22, x23, x24, x2, x26, x27, x20, x24, x30, x30, x32, x11, x27, x35, (D 3), (D 4), (D 5), (D 6), (D 7), (D 8), (D 9), (D 10), undef, undef, undef, undef, undef, undef] ++ [undef, undef, undef, undef, undef, undef, undef, undef, undef, undef, undef, undef, undef, undef, undef, undef, undef, undef, undef, undef, undef, undef, undef, undef, undef, undef, undef, undef, undef, undef, undef, undef, undef, undef, undef, undef, undef, undef, undef, undef, undef, undef, undef, undef, undef, undef, undef, undef]).toArray, []⟩) (by kernel_rfl) ?_
        refine wp_seq ?_
        refine wp_block ?_
        refine lwp_list ?_
        refine ls_move (x := x30) (by kernel_rfl) (by kernel_rfl) ?_
        refine ls_move (x := x11) (by kernel_rfl) (by kernel_rfl) ?_
        refine ls_p (d := some 40) (by kernel_rfl) (by kernel_rfl) (p_rem (by kernel_rfl) (by kernel_rfl) H) (fun x40 H => ?_)
        refine ls_p (d := some 41) (by kernel_rfl) (by kernel_rfl) (p_add (by kernel_rfl) (by kernel_rfl) H) (fun x41 H => ?_)
        refine ls_p (d := some 42) (by kernel_rfl) (by kernel_rfl) (p_conv Tryd.underlying3 Tryd.underlying21 (by kernel_rfl) H) (fun x42 H => ?_)
        refine ls_d (d := some 43) (by kernel_rfl) (by kernel_rfl) HA_1 (d_call (by kernel_rfl) (by kernel_rfl) H) (fun x43 h_2 w_2 H HA_2 => ?_)
        refine ls_nil ?_
        refine block_normal ?_
        refine then_normal ?_
        refine fr_eq (b := ⟨([x0, x1, x2, undef, undef, undef, (.bool false), x20, x24, x27, x30, x11, undef, undef, undef, undef, undef, x0, x18, x19, x20, x1, x22, x23, x24, x2, x26, x27, x20, x24, x30, x30, x32, x11, x27, x35, (D 3), (D 4), x30, x11, x40, x41, x42, x43, undef, undef, undef, undef, undef, undef] ++ [undef, undef, undef, undef, undef, undef, undef, undef, undef, undef, undef, undef, undef, undef, undef, undef, undef, undef, undef, undef, undef, undef, undef, undef, undef, undef, undef, undef, undef, undef, undef, undef, undef, undef, undef, undef, undef, undef, undef, undef, undef, undef, undef, undef, undef, undef, undef, undef]).toArray, []⟩) (by kernel_rfl) ?_
        refine lwp_list ?_
        refine ls_move (x := x11) (by kernel_rfl) (by kernel_rfl) ?_
        refine ls_p (d := some 37) (by kernel_rfl) (by kernel_rfl) (p_add (by kernel_rfl) (by kernel_rfl) H) (fun x37 H => ?_)
        refine ls_assign (x := x37) (by kernel_rfl) (by kernel_rfl) ?_
        refine ls_nil ?_
        exact ⟨⟨(fun i => ([x11, x27, x35, x11, x37, x30, x11, x40, x41, x42, x43]).getD i undef), x37, h_2, by kernel_rfl, HA_2, H.1⟩, loop_lt HA_2.heap HA_1.heap (by kernel_rfl) (by kernel_rfl) H.2⟩
      · refine wp_exit ?_
        refine then_exit ?_
        refine then_exit ?_
        refine block_exit ?_
        refine then_normal ?_
        refine fr_eq (b := ⟨([x0, x1, x2, undef, undef, undef, (.bool false), x20, x24, x27, x30, x11, undef, undef, undef, undef, undef, x0, x18, x19, x20, x1, x22, x23, x24, x2, x26, x27, x20, x24, x30, x30, x32, x11, x27, x35, (D 3), (D 4), (D 5), (D 6), (D 7), (D 8), (D 9), (D 10), undef, undef, undef, undef, undef, undef] ++ [undef, undef, undef, undef, undef, undef, undef, undef, undef, undef, undef, undef, undef, undef, undef, undef, undef, undef, undef, undef, undef, undef, undef, undef, undef, undef, undef, undef, undef, undef, undef, undef, undef, undef, undef, undef, undef, undef, undef, undef, undef, undef, undef, undef, undef, undef, undef, undef]).toArray, []⟩) (by kernel_rfl) ?_
        refine wp_seq ?_
        refine lwp_list ?_
        refine ls_move (x := x30) (by kernel_rfl) (by kernel_rfl) ?_
        refine ls_d (d := some 45) (by kernel_rfl) (by kernel_rfl) HA_1 (d_call (by kernel_rfl) (by kernel_rfl) H) (fun x45 h_3 w_3 H HA_3 => ?_)
        refine ls_assign (x := x45) (by kernel_rfl) (by kernel_rfl) ?_
        refine ls_nil ?_
        refine then_normal ?_
        refine fr_eq (b := ⟨([x0, x1, x2, undef, undef, undef, (.bool false), x20, x24, x27, x30, x11, x45, undef, undef, undef, undef, x0, x18, x19, x20, x1, x22, x23, x24, x2, x26, x27, x20, x24, x30, x30, x32, x11, x27, x35, (D 3), (D 4), (D 5), (D 6), (D 7), (D 8), (D 9), (D 10), x30, x45, undef, undef, undef, undef] ++ [undef, undef, undef, undef, undef, undef, undef, undef, undef, undef, undef, undef, undef, undef, undef, undef, undef, undef, undef, undef, undef, undef, undef, undef, undef, undef, undef, undef, undef, undef, undef, undef, undef, undef, undef, undef, undef, undef, undef, undef, undef, undef, undef, undef, undef, undef, undef, undef]).toArray, []⟩) (by kernel_rfl) ?_
        refine wp_seq ?_
        refine lwp_list ?_
        refine ls_move (x := x27) (by kernel_rfl) (by kernel_rfl) ?_
        refine ls_move (x := x20) (by kernel_rfl) (by kernel_rfl) ?_
        refine ls_p (d := some 48) (by kernel_rfl) (by kernel_rfl) (p_add (by kernel_rfl) (by kernel_rfl) H) (fun x48 H => ?_)
        refine ls_p (d := some 49) (by kernel_rfl) (by kernel_rfl) (p_sub (by kernel_rfl) (by kernel_rfl) H) (fun x49 H => ?_)
        refine ls_move (x := x20) (by kernel_rfl) (by kernel_rfl) ?_
        refine ls_p (d := some 51) (by kernel_rfl) (by kernel_rfl) (p_quo (by kernel_rfl) (by kernel_rfl) H) (fun x51 H => ?_)
        refine ls_fr (b := ⟨([x0, x1, x2, undef, undef, undef, (.bool false), x20, x24, x27, x30, x11, x45, undef, undef, undef, undef, x0, x18, x19, x20, x1, x22, x23, x24, x2, x26, x27, x20, x24, x30, x30, x32, x11, x27, x35, (D 3), (D 4), (D 5), (D 6), (D 7), (D 8), (D 9), (D 10), x30, x45, x27, x20, x48, x49] ++ [x20, x51, undef, undef, undef, undef, undef, undef, undef, undef, undef, undef, undef, undef, undef, undef, undef, undef, undef, undef, undef, undef, undef, undef, undef, undef, undef, undef, undef, undef, undef, undef, undef, undef, undef, undef, undef, undef, undef, undef, undef, undef, undef, undef, undef, undef, undef, undef]).toArray, []⟩) (by kernel_rfl) ?_
        refine ls_assign (x := x51) (by kernel_rfl) (by kernel_rfl) ?_
        refine ls_nil ?_
        refine then_normal ?_
        refine fr_eq (b := ⟨([x0, x1, x2, undef, undef, undef, (.bool false), x20, x24, x27, x30, x11, x45, x51, undef, undef, undef, x0, x18, x19, x20, x1, x22, x23, x24, x2, x26, x27, x20, x24, x30, x30, x32, x11, x27, x35, (D 3), (D 4), (D 5), (D 6), (D 7), (D 8), (D 9), (D 10), x30, x45, x27, x20, x48, x49] ++ [x20, x51, undef, undef, undef, undef, undef, undef, undef, undef, undef, undef, undef, undef, undef, undef, undef, undef, undef, undef, undef, undef, undef, undef, undef, undef, undef, undef, undef, undef, undef, undef, undef, undef, undef, undef, undef, undef, undef, undef, undef, undef, undef, undef, undef, undef, undef, undef]).toArray, []⟩) (by kernel_rfl) ?_
        refine wp_seq ?_
        refine wp_seq ?_
        refine lwp_list ?_
        refine ls_move (x := x45) (by kernel_rfl) (by kernel_rfl) ?_
        refine ls_p (d := some 53) (by kernel_rfl) (by kernel_rfl) (p_len Tryd.underlying26 (by kernel_rfl) H) (fun x53 H => ?_)
        refine ls_move (x := x51) (by kernel_rfl) (by kernel_rfl) ?_
        refine ls_move (x := x24) (by kernel_rfl) (by kernel_rfl) ?_
        refine ls_p (d := some 56) (by kernel_rfl) (by kernel_rfl) (p_sub (by kernel_rfl) (by kernel_rfl) H) (fun x56 H => ?_)
        refine ls_p (d := some 57) (by kernel_rfl) (by kernel_rfl) (p_max (by kernel_rfl) (by kernel_rfl) H) (fun x57 H => ?_)
        refine ls_fr (b := ⟨([x0, x1, x2, undef, undef, undef, (.bool false), x20, x24, x27, x30, x11, x45, x51, undef, undef, undef, x0, x18, x19, x20, x1, x22, x23, x24, x2, x26, x27, x20, x24, x30, x30, x32, x11, x27, x35, (D 3), (D 4), (D 5), (D 6), (D 7), (D 8), (D 9), (D 10), x30, x45, x27, x20, x48, x49] ++ [x20, x51, x45, x53, x51, x24, x56, x57, undef, undef, undef, undef, undef, undef, undef, undef, undef, undef, undef, undef, undef, undef, undef, undef, undef, undef, undef, undef, undef, undef, undef, undef, undef, undef, undef, undef, undef, undef, undef, undef, undef, undef, undef, undef, undef, undef, undef, undef]).toArray, []⟩) (by kernel_rfl) ?_
        refine ls_p (d := some 58) (by kernel_rfl) (by kernel_rfl) (p_sNe (by kernel_rfl) (by kernel_rfl) H) (fun x58 H => ?_)
        refine ls_nil ?_
        refine then_normal ?_
        refine fr_eq (b := ⟨([x0, x1, x2, undef, undef, undef, (.bool false), x20, x24, x27, x30, x11, x45, x51, undef, undef, undef, x0, x18, x19, x20, x1, x22, x23, x24, x2, x26, x27, x20, x24, x30, x30, x32, x11, x27, x35, (D 3), (D 4), (D 5), (D 6), (D 7), (D 8), (D 9), (D 10), x30, x45, x27, x20, x48, x49] ++ [x20, x51, x45, x53, x51, x24, x56, x57, x58, undef, undef, undef, undef, undef, undef, undef, undef, undef, undef, undef, undef, undef, undef, undef, undef, undef, undef, undef, undef, undef, undef, undef, undef, undef, undef, undef, undef, undef, undef, undef, undef, undef, undef, undef, undef, undef, undef, undef]).toArray, []⟩) (by kernel_rfl) ?_
        refine wp_if rfl H (fun H => ?_) (fun H => ?_)
        · refine wp_seq ?_
          refine lwp_list ?_
          refine ls_assign (x := (.bool false)) (by kernel_rfl) (by kernel_rfl) ?_
          refine ls_nil ?_
          refine then_normal ?_
          refine fr_eq (b := ⟨([x0, x1, x2, undef, undef, undef, (.bool false), x20, x24, x27, x30, x11, x45, x51, undef, undef, undef, x0, x18, x19, x20, x1, x22, x23, x24, x2, x26, x27, x20, x24, x30, x30, x32, x11, x27, x35, (D 3), (D 4), (D 5), (D 6), (D 7), (D 8), (D 9), (D 10), x30, x45, x27, x20, x48, x49] ++ [x20, x51, x45, x53, x51, x24, x56, x57, x58, undef, undef, undef, undef, undef, undef, undef, undef, undef, undef, undef, undef, undef, undef, undef, undef, undef, undef, undef, undef, undef, undef, undef, undef, undef, undef, undef, undef, undef, undef, undef, undef, undef, undef, undef, undef, undef, undef, undef]).toArray, []⟩) (by kernel_rfl) ?_
          refine wp_ret ?_
          refine then_ret ?_
          exact end1 (Tryd.results3) (by kernel_rfl) (by kernel_rfl) HA_3 H _ (.inr rfl)
        · refine wp_skip ?_
          refine then_normal ?_
          refine fr_eq (b := ⟨([x0, x1, x2, undef, undef, undef, (.bool false), x20, x24, x27, x30, x11, x45, x51, undef, undef, undef, x0, x18, x19, x20, x1, x22, x23, x24, x2, x26, x27, x20, x24, x30, x30, x32, x11, x27, x35, (D 3), (D 4), (D 5), (D 6), (D 7), (D 8), (D 9), (D 10), x30, x45, x27, x20, x48, x49] ++ [x20, x51, x45, x53, x51, x24, x56, x57, x58, undef, undef, undef, undef, undef, undef, undef, undef, undef, undef, undef, undef, undef, undef, undef, undef, undef, undef, undef, undef, undef, undef, undef, undef, undef, undef, undef, undef, undef, undef, undef, undef, undef, undef, undef, undef, undef, undef, undef]).toArray, []⟩) (by kernel_rfl) ?_
          refine wp_seq ?_
          refine wp_seq ?_
          refine lwp_list ?_
          refine ls_assign (x := (.int .i64 0)) (by kernel_rfl) (by kernel_rfl) ?_
          refine ls_nil ?_
          refine then_normal ?_
          refine fr_eq (b := ⟨([x0, x1, x2, undef, undef, undef, (.bool false), x20, x24, x27, x30, x11, x45, x51, (.int .i64 0), undef, undef, x0, x18, x19, x20, x1, x22, x23, x24, x2, x26, x27, x20, x24, x30, x30, x32, x11, x27, x35, (D 3), (D 4), (D 5), (D 6), (D 7), (D 8), (D 9), (D 10), x30, x45, x27, x20, x48, x49] ++ [x20, x51, x45, x53, x51, x24, x56, x57, x58, undef, undef, undef, undef, undef, undef, undef, undef, undef, undef, undef, undef, undef, undef, undef, undef, undef, undef, undef, undef, undef, undef, undef, undef, undef, undef, undef, undef, undef, undef, undef, undef, undef, undef, undef, undef, undef, undef, undef]).toArray, []⟩) (by kernel_rfl) ?_
          refine wp_block ?_
          obtain ⟨I_1, m_1, H0, HB⟩ := H
          refine wp_loop (fun a w => ∃ (D_1 : Nat → Value) (x14 : Value) (h_4 : Heap), a = ⟨([x0, x1, x2, undef, undef, undef, (D_1 0), x20, x24, x27, x30, x11, x45, x51, x14, (D_1 1), (D_1 2), x0, x18, x19, x20, x1, x22, x23, x24, x2, x26, x27, x20, x24, x30, x30, x32, x11, x27, x35, (D 3), (D 4), (D 5), (D 6), (D 7), (D 8), (D 9), (D 10), x30, x45, x27, x20, x48, x49] ++ [x20, x51, x45, x53, x51, x24, x56, x57, x58, (D_1 3), (D_1 4), (D_1 5), (D_1 6), (D_1 7), (D_1 8), (D_1 9), (D_1 10), (D_1 11), (D_1 12), (D_1 13), (D_1 14), (D_1 15), (D_1 16), (D_1 17), (D_1 18), (D_1 19), (D_1 20), (D_1 21), (D_1 22), (D_1 23), (D_1 24), (D_1 25), (D_1 26), (D_1 27), (D_1 28), (D_1 29), (D_1 30), (D_1 31), (D_1 32), (D_1 33), (D_1 34), (D_1 35), (D_1 36), (D_1 37), (D_1 38), (D_1 39), (D_1 40), undef]).toArray, []⟩ ∧ At w0 w h_4 ∧ I_1 x14 h_4) (fun a w => m_1 (a.tmps.getD 14 undef) w.heap) ?_ ?_
          · exact ⟨(fun i => ([(.bool false), undef, undef, undef, undef, undef, undef, undef, undef, undef, undef, undef, undef, undef, undef, undef, undef, undef, undef, undef, undef, undef, undef, undef, undef, undef, undef, undef, undef, undef, undef, undef, undef, undef, undef, undef, undef, undef, undef, undef, undef]).getD i undef), (.int .i64 0), h_3, by kernel_rfl, HA_3, H0⟩
          · rintro _ w_4 ⟨D_1, x14, h_4, rfl, HA_4, HI⟩
            have H : betonylaw24_ScreenText_l2 R x20 x27 x30 x45 (fun x14' h' => I_1 x14' h' ∧ m_1 x14' h' < m_1 x14 h_4) x14 h_4 := HB x14 h_4 HI
            clear HB H0 HI
            unfold betonylaw24_ScreenText_l2 at H
            refine wp_seq ?_
            refine wp_seq ?_
            refine lwp_list ?_
            refine ls_move (x := x14) (by kernel_rfl) (by kernel_rfl) ?_
            refine ls_move (x := x27) (by kernel_rfl) (by kernel_rfl) ?_
            refine ls_p (d := some 61) (by kernel_rfl) (by kernel_rfl) (p_sLt (by kernel_rfl) (by kernel_rfl) H) (fun x61 H => ?_)
            refine ls_nil ?_
            refine then_normal ?_
            refine fr_eq (b := ⟨([x0, x1, x2, undef, undef, undef, (D_1 0), x20, x24, x27, x30, x11, x45, x51, x14, (D_1 1), (D_1 2), x0, x18, x19, x20, x1, x22, x23, x24, x2, x26, x27, x20, x24, x30, x30, x32, x11, x27, x35, (D 3), (D 4), (D 5), (D 6), (D 7), (D 8), (D 9), (D 10), x30, x45, x27, x20, x48, x49] ++ [x20, x51, x45, x53, x51, x24, x56, x57, x58, x14, x27, x61, (D_1 6), (D_1 7), (D_1 8), (D_1 9), (D_1 10), (D_1 11), (D_1 12), (D_1 13), (D_1 14), (D_1 15), (D_1 16), (D_1 17), (D_1 18), (D_1 19), (D_1 20), (D_1 21), (D_1 22), (D_1 23), (D_1 24), (D_1 25), (D_1 26), (D_1 27), (D_1 28), (D_1 29), (D_1 30), (D_1 31), (D_1 32), (D_1 33), (D_1 34), (D_1 35), (D_1 36), (D_1 37), (D_1 38), (D_1 39), (D_1 40), undef]).toArray, []⟩) (by kernel_rfl) ?_
            refine wp_if rfl H (fun H => ?_) (fun H => ?_)
            · refine wp_skip ?_
              refine then_normal ?_
              refine fr_eq (b := ⟨([x0, x1, x2, undef, undef, undef, (D_1 0), x20, x24, x27, x30, x11, x45, x51, x14, (D_1 1), (D_1 2), x0, x18, x19, x20, x1, x22, x23, x24, x2, x26, x27, x20, x24, x30, x30, x32, x11, x27, x35, (D 3), (D 4), (D 5), (D 6), (D 7), (D 8), (D 9), (D 10), x30, x45, x27, x20, x48, x49] ++ [x20, x51, x45, x53, x51, x24, x56, x57, x58, x14, x27, x61, (D_1 6), (D_1 7), (D_1 8), (D_1 9), (D_1 10), (D_1 11), (D_1 12), (D_1 13), (D_1 14), (D_1 15), (D_1 16), (D_1 17), (D_1 18), (D_1 19), (D_1 20), (D_1 21), (D_1 22), (D_1 23), (D_1 24), (D_1 25), (D_1 26), (D_1 27), (D_1 28), (D_1 29), (D_1 30), (D_1 31), (D_1 32), (D_1 33), (D_1 34), (D_1 35), (D_1 36), (D_1 37), (D_1 38), (D_1 39), (D_1 40), undef]).toArray, []⟩) (by kernel_rfl) ?_
              refine wp_seq ?_
              refine wp_block ?_
              refine wp_seq ?_
              refine lwp_list ?_
              refine ls_p (d := some 64) (by kernel_rfl) (by kernel_rfl) (p_lit (pl := [(0, 1), (1, 3)]) Tryd.zeroValue31 Tryd.underlying31 ⟨(by kernel_rfl), Tryd.sizeOf21, (by kernel_rfl), Tryd.sizeOf29, trivial⟩ (by kernel_rfl) (by kernel_rfl) H) (fun x64 H => ?_)
              refine ls_d (d := some 15) (by kernel_rfl) (by kernel_rfl) HA_4 (d_alloc Tryd.zeroValue31 H) (fun x15 h_5 w_5 H HA_5 => ?_)
              refine ls_d (d := none) (by kernel_rfl) (by kernel_rfl) HA_5 (d_stn Tryd.sizeOf31 (by kernel_rfl) (by kernel_rfl) H) (fun _ h_6 w_6 H HA_6 => ?_)
              refine ls_nil ?_
              refine then_normal ?_
              refine fr_eq (b := ⟨([x0, x1, x2, undef, undef, undef, (D_1 0), x20, x24, x27, x30, x11, x45, x51, x14, x15, (D_1 2), x0, x18, x19, x20, x1, x22, x23, x24, x2, x26, x27, x20, x24, x30, x30, x32, x11, x27, x35, (D 3), (D 4), (D 5), (D 6), (D 7), (D 8), (D 9), (D 10), x30, x45, x27, x20, x48, x49] ++ [x20, x51, x45, x53, x51, x24, x56, x57, x58, x14, x27, x61, (D_1 6), (D_1 7), x64, (D_1 9), (D_1 10), (D_1 11), (D_1 12), (D_1 13), (D_1 14), (D_1 15), (D_1 16), (D_1 17), (D_1 18), (D_1 19), (D_1 20), (D_1 21), (D_1 22), (D_1 23), (D_1 24), (D_1 25), (D_1 26), (D_1 27), (D_1 28), (D_1 29), (D_1 30), (D_1 31), (D_1 32), (D_1 33), (D_1 34), (D_1 35), (D_1 36), (D_1 37), (D_1 38), (D_1 39), (D_1 40), undef]).toArray, []⟩) (by kernel_rfl) ?_
              refine wp_seq ?_
              refine lwp_list ?_
              refine ls_move (x := x14) (by kernel_rfl) (by kernel_rfl) ?_
              refine ls_move (x := x20) (by kernel_rfl) (by kernel_rfl) ?_
              refine ls_p (d := some 67) (by kernel_rfl) (by kernel_rfl) (p_quo (by kernel_rfl) (by kernel_rfl) H) (fun x67 H => ?_)
              refine ls_assign (x := x67) (by kernel_rfl) (by kernel_rfl) ?_
              refine ls_nil ?_
              refine then_normal ?_
              refine fr_eq (b := ⟨([x0, x1, x2, undef, undef, undef, (D_1 0), x20, x24, x27, x30, x11, x45, x51, x14, x15, x67, x0, x18, x19, x20, x1, x22, x23, x24, x2, x26, x27, x20, x24, x30, x30, x32, x11, x27, x35, (D 3), (D 4), (D 5), (D 6), (D 7), (D 8), (D 9), (D 10), x30, x45, x27, x20, x48, x49] ++ [x20, x51, x45, x53, x51, x24, x56, x57, x58, x14, x27, x61, (D_1 6), (D_1 7), x64, x14, x20, x67, (D_1 12), (D_1 13), (D_1 14), (D_1 15), (D_1 16), (D_1 17), (D_1 18), (D_1 19), (D_1 20), (D_1 21), (D_1 22), (D_1 23), (D_1 24), (D_1 25), (D_1 26), (D_1 27), (D_1 28), (D_1 29), (D_1 30), (D_1 31), (D_1 32), (D_1 33), (D_1 34), (D_1 35), (D_1 36), (D_1 37), (D_1 38), (D_1 39), (D_1 40), undef]).toArray, []⟩) (by kernel_rfl) ?_
              refine wp_seq ?_
              refine wp_seq ?_
              refine lwp_list ?_
              refine ls_move (x := x67) (by kernel_rfl) (by kernel_rfl) ?_
              refine ls_move (x := x45) (by kernel_rfl) (by kernel_rfl) ?_
              refine ls_p (d := some 70) (by kernel_rfl) (by kernel_rfl) (p_len Tryd.underlying26 (by kernel_rfl) H) (fun x70 H => ?_)
              refine ls_p (d := some 71) (by kernel_rfl) (by kernel_rfl) (p_sLt (by kernel_rfl) (by kernel_rfl) H) (fun x71 H => ?_)
              refine ls_nil ?_
              refine then_normal ?_
              refine fr_eq (b := ⟨([x0, x1, x2, undef, undef, undef, (D_1 0), x20, x24, x27, x30, x11, x45, x51, x14, x15, x67, x0, x18, x19, x20, x1, x22, x23, x24, x2, x26, x27, x20, x24, x30, x30, x32, x11, x27, x35, (D 3), (D 4), (D 5), (D 6), (D 7), (D 8), (D 9), (D 10), x30, x45, x27, x20, x48, x49] ++ [x20, x51, x45, x53, x51, x24, x56, x57, x58, x14, x27, x61, (D_1 6), (D_1 7), x64, x14, x20, x67, x67, x45, x70, x71, (D_1 16), (D_1 17), (D_1 18), (D_1 19), (D_1 20), (D_1 21), (D_1 22), (D_1 23), (D_1 24), (D_1 25), (D_1 26), (D_1 27), (D_1 28), (D_1 29), (D_1 30), (D_1 31), (D_1 32), (D_1 33), (D_1 34), (D_1 35), (D_1 36), (D_1 37), (D_1 38), (D_1 39), (D_1 40), undef]).toArray, []⟩) (by kernel_rfl) ?_
              refine wp_join (fun a w => ∃ (D_2 : Nat → Value) (h_7 : Heap), a = ⟨([x0, x1, x2, undef, undef, undef, (D_1 0), x20, x24, x27, x30, x11, x45, x51, x14, x15, x67, x0, x18, x19, x20, x1, x22, x23, x24, x2, x26, x27, x20, x24, x30, x30, x32, x11, x27, x35, (D 3), (D 4), (D 5), (D 6), (D 7), (D 8), (D 9), (D 10), x30, x45, x27, x20, x48, x49] ++ [x20, x51, x45, x53, x51, x24, x56, x57, x58, x14, x27, x61, (D_1 6), (D_1 7), x64, x14, x20, x67, x67, x45, x70, x71, (D_2 0), (D_2 1), (D_2 2), (D_2 3), (D_2 4), (D_2 5), (D_2 6), (D_2 7), (D_2 8), (D_2 9), (D_2 10), (D_2 11), (D_2 12), (D_2 13), (D_2 14), (D_2 15), (D_2 16), (D_2 17), (D_1 34), (D_1 35), (D_1 36), (D_1 37), (D_1 38), (D_1 39), (D_1 40), undef]).toArray, []⟩ ∧ At w0 w h_7 ∧ betonylaw24_ScreenText_j3 R (fun x14' h' => I_1 x14' h' ∧ m_1 x14' h' < m_1 x14 h_4) x14 x15 h_7) ?_ ?_
              · refine wp_if rfl H (fun H => ?_) (fun H => ?_)
                · refine lwp_mx (Nat.testBit 512) (Nat.testBit 0) (Nat.testBit 247) [0, 0, 3, 7, 0, 0, 48, 127, 255, 511] (Nat.testBit 0) (fun h' => h' = h_6) [0, 1, 2, 3, 4, 5, 6, 7, 8, 9] (by kernel_rfl) (by kernel_rfl) (by kernel_rfl) (by kernel_rfl) HA_6 rfl ?_
                  intro w_8 HA_8
                  refine lm_al (x := x45) (d := some 72) (by kernel_rfl) rfl (by kernel_rfl) (by kernel_rfl) (al_move (by kernel_rfl)) ?_
                  refine lm_al (x := x67) (d := some 73) (by kernel_rfl) rfl (by kernel_rfl) (by kernel_rfl) (al_move (by kernel_rfl)) ?_
                  refine lm_p (d := some 74) (by kernel_rfl) rfl (by kernel_rfl) (by kernel_rfl) (p_ixs Tryd.underlying26 Tryd.sizeOf32 (by kernel_rfl) (by kernel_rfl) H) (fun x74 H => ?_)
                  refine lm_f (d := some 75) (by kernel_rfl) rfl (by kernel_rfl) (by kernel_rfl) (by kernel_rfl) (by kernel_rfl) (of_eq (y_ld Tryd.isAgg32 (by kernel_rfl) H)) (fun x75 H => ?_)
                  refine lm_al (x := x14) (d := some 76) (by kernel_rfl) rfl (by kernel_rfl) (by kernel_rfl) (al_move (by kernel_rfl)) ?_
                  refine lm_al (x := x20) (d := some 77) (by kernel_rfl) rfl (by kernel_rfl) (by kernel_rfl) (al_move (by kernel_rfl)) ?_
                  refine lm_fr (b := ⟨([x0, x1, x2, undef, undef, undef, (D_1 0), x20, x24, x27, x30, x11, x45, x51, x14, x15, x67, x0, x18, x19, x20, x1, x22, x23, x24, x2, x26, x27, x20, x24, x30, x30, x32, x11, x27, x35, (D 3), (D 4), (D 5), (D 6), (D 7), (D 8), (D 9), (D 10), x30, x45, x27, x20, x48, x49] ++ [x20, x51, x45, x53, x51, x24, x56, x57, x58, x14, x27, x61, (D_1 6), (D_1 7), x64, x14, x20, x67, x67, x45, x70, x71, x45, x67, x74, x75, x14, x20, (D_1 22), (D_1 23), (D_1 24), (D_1 25), (D_1 26), (D_1 27), (D_1 28), (D_1 29), (D_1 30), (D_1 31), (D_1 32), (D_1 33), (D_1 34), (D_1 35), (D_1 36), (D_1 37), (D_1 38), (D_1 39), (D_1 40), undef]).toArray, []⟩) (by kernel_rfl) ?_
                  refine lm_p (d := some 78) (by kernel_rfl) rfl (by kernel_rfl) (by kernel_rfl) (p_rem (by kernel_rfl) (by kernel_rfl) H) (fun x78 H => ?_)
                  refine lm_p (d := some 79) (by kernel_rfl) rfl (by kernel_rfl) (by kernel_rfl) (p_ixs Tryd.underlying32 Tryd.sizeOf31 (by kernel_rfl) (by kernel_rfl) H) (fun x79 H => ?_)
                  refine lm_f (d := some 80) (by kernel_rfl) rfl (by kernel_rfl) (by kernel_rfl) (by kernel_rfl) (by kernel_rfl) (of_eq (y_ldn Tryd.isAgg31 Tryd.sizeOf31 (by kernel_rfl) H)) (fun x80 H => ?_)
                  refine lm_d (d := none) (by kernel_rfl) rfl (by kernel_rfl) (by kernel_rfl) (by kernel_rfl) HA_8 (d_stn Tryd.sizeOf31 (by kernel_rfl) (by kernel_rfl) H) (fun _ h_8 w_9 H HA_9 => ?_)
                  refine lm_nil ?_
                  exact ⟨(fun i => ([x45, x67, x74, x75, x14, x20, x78, x79, x80, (D_1 25), (D_1 26), (D_1 27), (D_1 28), (D_1 29), (D_1 30), (D_1 31), (D_1 32), (D_1 33)]).getD i undef), h_8, by kernel_rfl, HA_9, H⟩
                · refine lwp_list ?_
                  refine ls_move (x := x30) (by kernel_rfl) (by kernel_rfl) ?_
                  refine ls_move (x := x14) (by kernel_rfl) (by kernel_rfl) ?_
                  refine ls_move (x := x20) (by kernel_rfl) (by kernel_rfl) ?_
                  refine ls_p (d := some 84) (by kernel_rfl) (by kernel_rfl) (p_rem (by kernel_rfl) (by kernel_rfl) H) (fun x84 H => ?_)
                  refine ls_move (x := x67) (by kernel_rfl) (by kernel_rfl) ?_
                  refine ls_move (x := x45) (by kernel_rfl) (by kernel_rfl) ?_
                  refine ls_fr (b := ⟨([x0, x1, x2, undef, undef, undef, (D_1 0), x20, x24, x27, x30, x11, x45, x51, x14, x15, x67, x0, x18, x19, x20, x1, x22, x23, x24, x2, x26, x27, x20, x24, x30, x30, x32, x11, x27, x35, (D 3), (D 4), (D 5), (D 6), (D 7), (D 8), (D 9), (D 10), x30, x45, x27, x20, x48, x49] ++ [x20, x51, x45, x53, x51, x24, x56, x57, x58, x14, x27, x61, (D_1 6), (D_1 7), x64, x14, x20, x67, x67, x45, x70, x71, (D_1 16), (D_1 17), (D_1 18), (D_1 19), (D_1 20), (D_1 21), (D_1 22), (D_1 23), (D_1 24), x30, x14, x20, x84, x67, x45, (D_1 31), (D_1 32), (D_1 33), (D_1 34), (D_1 35), (D_1 36), (D_1 37), (D_1 38), (D_1 39), (D_1 40), undef]).toArray, []⟩) (by kernel_rfl) ?_
                  refine ls_p (d := some 87) (by kernel_rfl) (by kernel_rfl) (p_len Tryd.underlying26 (by kernel_rfl) H) (fun x87 H => ?_)
                  refine ls_p (d := some 88) (by kernel_rfl) (by kernel_rfl) (p_sub (by kernel_rfl) (by kernel_rfl) H) (fun x88 H => ?_)
                  refine ls_d (d := some 89) (by kernel_rfl) (by kernel_rfl) HA_6 (d_call (by kernel_rfl) (by kernel_rfl) H) (fun x89 h_9 w_10 H HA_10 => ?_)
                  refine ls_d (d := none) (by kernel_rfl) (by kernel_rfl) HA_10 (d_stn Tryd.sizeOf31 (by kernel_rfl) (by kernel_rfl) H) (fun _ h_10 w_11 H HA_11 => ?_)
                  refine ls_nil ?_
                  exact ⟨(fun i => ([(D_1 16), (D_1 17), (D_1 18), (D_1 19), (D_1 20), (D_1 21), (D_1 22), (D_1 23), (D_1 24), x30, x14, x20, x84, x67, x45, x87, x88, x89]).getD i undef), h_10, by kernel_rfl, HA_11, H⟩
              · rintro _ w_7 ⟨D_2, h_7, rfl, HA_7, H⟩
                unfold betonylaw24_ScreenText_j3 at H
                refine then_normal ?_
                refine fr_eq (b := ⟨([x0, x1, x2, undef, undef, undef, (D_1 0), x20, x24, x27, x30, x11, x45, x51, x14, x15, x67, x0, x18, x19, x20, x1, x22, x23, x24, x2, x26, x27, x20, x24, x30, x30, x32, x11, x27, x35, (D 3), (D 4), (D 5), (D 6), (D 7), (D 8), (D 9), (D 10), x30, x45, x27, x20, x48, x49] ++ [x20, x51, x45, x53, x51, x24, x56, x57, x58, x14, x27, x61, (D_1 6), (D_1 7), x64, x14, x20, x67, x67, x45, x70, x71, (D_2 0), (D_2 1), (D_2 2), (D_2 3), (D_2 4), (D_2 5), (D_2 6), (D_2 7), (D_2 8), (D_2 9), (D_2 10), (D_2 11), (D_2 12), (D_2 13), (D_2 14), (D_2 15), (D_2 16), (D_2 17), (D_1 34), (D_1 35), (D_1 36), (D_1 37), (D_1 38), (D_1 39), (D_1 40), undef]).toArray, []⟩) (by kernel_rfl) ?_
                refine wp_seq ?_
                refine lwp_list ?_
                refine ls_p (d := some 90) (by kernel_rfl) (by kernel_rfl) (p_off Tryd.underlying31 rfl (fun w => ⟨_, Tryd.sizeOf21 w⟩) rfl (by kernel_rfl) H) (fun x90 H => ?_)
                refine ls_y (d := some 91) (by kernel_rfl) (by kernel_rfl) HA_7 (y_ld Tryd.isAgg21 (by kernel_rfl) H) (fun x91 H => ?_)
                refine ls_move (x := x14) (by kernel_rfl) (by kernel_rfl) ?_
                refine ls_p (d := some 93) (by kernel_rfl) (by kernel_rfl) (p_rem (by kernel_rfl) (by kernel_rfl) H) (fun x93 H => ?_)
                refine ls_p (d := some 94) (by kernel_rfl) (by kernel_rfl) (p_add (by kernel_rfl) (by kernel_rfl) H) (fun x94 H => ?_)
                refine ls_p (d := some 95) (by kernel_rfl) (by kernel_rfl) (p_conv Tryd.underlying3 Tryd.underlying21 (by kernel_rfl) H) (fun x95 H => ?_)
                refine ls_fr (b := ⟨([x0, x1, x2, undef, undef, undef, (D_1 0), x20, x24, x27, x30, x11, x45, x51, x14, x15, x67, x0, x18, x19, x20, x1, x22, x23, x24, x2, x26, x27, x20, x24, x30, x30, x32, x11, x27, x35, (D 3), (D 4), (D 5), (D 6), (D 7), (D 8), (D 9), (D 10), x30, x45, x27, x20, x48, x49] ++ [x20, x51, x45, x53, x51, x24, x56, x57, x58, x14, x27, x61, (D_1 6), (D_1 7), x64, x14, x20, x67, x67, x45, x70, x71, (D_2 0), (D_2 1), (D_2 2), (D_2 3), (D_2 4), (D_2 5), (D_2 6), (D_2 7), (D_2 8), (D_2 9), (D_2 10), (D_2 11), (D_2 12), (D_2 13), (D_2 14), (D_2 15), (D_2 16), (D_2 17), x90, x91, x14, x93, x94, x95, (D_1 40), undef]).toArray, []⟩) (by kernel_rfl) ?_
                refine ls_p (d := some 96) (by kernel_rfl) (by kernel_rfl) (p_sNe (by kernel_rfl) (by kernel_rfl) H) (fun x96 H => ?_)
                refine ls_nil ?_
                refine then_normal ?_
                refine fr_eq (b := ⟨([x0, x1, x2, undef, undef, undef, (D_1 0), x20, x24, x27, x30, x11, x45, x51, x14, x15, x67, x0, x18, x19, x20, x1, x22, x23, x24, x2, x26, x27, x20, x24, x30, x30, x32, x11, x27, x35, (D 3), (D 4), (D 5), (D 6), (D 7), (D 8), (D 9), (D 10), x30, x45, x27, x20, x48, x49] ++ [x20, x51, x45, x53, x51, x24, x56, x57, x58, x14, x27, x61, (D_1 6), (D_1 7), x64, x14, x20, x67, x67, x45, x70, x71, (D_2 0), (D_2 1), (D_2 2), (D_2 3), (D_2 4), (D_2 5), (D_2 6), (D_2 7), (D_2 8), (D_2 9), (D_2 10), (D_2 11), (D_2 12), (D_2 13), (D_2 14), (D_2 15), (D_2 16), (D_2 17), x90, x91, x14, x93, x94, x95, x96, undef]).toArray, []⟩) (by kernel_rfl) ?_
                refine wp_if rfl H (fun H => ?_) (fun H => ?_)
                · refine wp_seq ?_
                  refine lwp_list ?_
                  refine ls_assign (x := (.bool false)) (by kernel_rfl) (by kernel_rfl) ?_
                  refine ls_nil ?_
                  refine then_normal ?_
                  refine fr_eq (b := ⟨([x0, x1, x2, undef, undef, undef, (.bool false), x20, x24, x27, x30, x11, x45, x51, x14, x15, x67, x0, x18, x19, x20, x1, x22, x23, x24, x2, x26, x27, x20, x24, x30, x30, x32, x11, x27, x35, (D 3), (D 4), (D 5), (D 6), (D 7), (D 8), (D 9), (D 10), x30, x45, x27, x20, x48, x49] ++ [x20, x51, x45, x53, x51, x24, x56, x57, x58, x14, x27, x61, (D_1 6), (D_1 7), x64, x14, x20, x67, x67, x45, x70, x71, (D_2 0), (D_2 1), (D_2 2), (D_2 3), (D_2 4), (D_2 5), (D_2 6), (D_2 7), (D_2 8), (D_2 9), (D_2 10), (D_2 11), (D_2 12), (D_2 13), (D_2 14), (D_2 15), (D_2 16), (D_2 17), x90, x91, x14, x93, x94, x95, x96, undef]).toArray, []⟩) (by kernel_rfl) ?_
                  refine wp_ret ?_
                  refine block_ret ?_
                  refine then_ret ?_
                  refine then_ret ?_
                  refine block_ret ?_
                  refine then_ret ?_
                  exact end1 (Tryd.results3) (by kernel_rfl) (by kernel_rfl) HA_7 H _ (.inr rfl)
                · refine wp_skip ?_
                  refine block_normal ?_
                  refine then_normal ?_
                  refine fr_eq (b := ⟨([x0, x1, x2, undef, undef, undef, (D_1 0), x20, x24, x27, x30, x11, x45, x51, x14, x15, x67, x0, x18, x19, x20, x1, x22, x23, x24, x2, x26, x27, x20, x24, x30, x30, x32, x11, x27, x35, (D 3), (D 4), (D 5), (D 6), (D 7), (D 8), (D 9), (D 10), x30, x45, x27, x20, x48, x49] ++ [x20, x51, x45, x53, x51, x24, x56, x57, x58, x14, x27, x61, (D_1 6), (D_1 7), x64, x14, x20, x67, x67, x45, x70, x71, (D_2 0), (D_2 1), (D_2 2), (D_2 3), (D_2 4), (D_2 5), (D_2 6), (D_2 7), (D_2 8), (D_2 9), (D_2 10), (D_2 11), (D_2 12), (D_2 13), (D_2 14), (D_2 15), (D_2 16), (D_2 17), x90, x91, x14, x93, x94, x95, x96, undef]).toArray, []⟩) (by kernel_rfl) ?_
                  refine lwp_list ?_
                  refine ls_move (x := x14) (by kernel_rfl) (by kernel_rfl) ?_
                  refine ls_p (d := some 63) (by kernel_rfl) (by kernel_rfl) (p_add (by kernel_rfl) (by kernel_rfl) H) (fun x63 H => ?_)
                  refine ls_assign (x := x63) (by kernel_rfl) (by kernel_rfl) ?_
                  refine ls_nil ?_
                  exact ⟨⟨(fun i => ([(D_1 0), x15, x67, x14, x27, x61, x14, x63, x64, x14, x20, x67, x67, x45, x70, x71, (D_2 0), (D_2 1), (D_2 2), (D_2 3), (D_2 4), (D_2 5), (D_2 6), (D_2 7), (D_2 8), (D_2 9), (D_2 10), (D_2 11), (D_2 12), (D_2 13), (D_2 14), (D_2 15), (D_2 16), (D_2 17), x90, x91, x14, x93, x94, x95, x96]).getD i undef), x63, h_7, by kernel_rfl, HA_7, H.1⟩, loop_lt HA_7.heap HA_4.heap (by kernel_rfl) (by kernel_rfl) H.2⟩
            · refine wp_exit ?_
              refine then_exit ?_
              refine then_exit ?_
              refine block_exit ?_
              refine then_normal ?_
              refine fr_eq (b := ⟨([x0, x1, x2, undef, undef, undef, (D_1 0), x20, x24, x27, x30, x11, x45, x51, x14, (D_1 1), (D_1 2), x0, x18, x19, x20, x1, x22, x23, x24, x2, x26, x27, x20, x24, x30, x30, x32, x11, x27, x35, (D 3), (D 4), (D 5), (D 6), (D 7), (D 8), (D 9), (D 10), x30, x45, x27, x20, x48, x49] ++ [x20, x51, x45, x53, x51, x24, x56, x57, x58, x14, x27, x61, (D_1 6), (D_1 7), (D_1 8), (D_1 9), (D_1 10), (D_1 11), (D_1 12), (D_1 13), (D_1 14), (D_1 15), (D_1 16), (D_1 17), (D_1 18), (D_1 19), (D_1 20), (D_1 21), (D_1 22), (D_1 23), (D_1 24), (D_1 25), (D_1 26), (D_1 27), (D_1 28), (D_1 29), (D_1 30), (D_1 31), (D_1 32), (D_1 33), (D_1 34), (D_1 35), (D_1 36), (D_1 37), (D_1 38), (D_1 39), (D_1 40), undef]).toArray, []⟩) (by kernel_rfl) ?_
              refine wp_seq ?_
              refine lwp_list ?_
              refine ls_d (d := some 97) (by kernel_rfl) (by kernel_rfl) HA_4 (d_call (by kernel_rfl) (by kernel_rfl) H) (fun x97 h_11 w_12 H HA_12 => ?_)
              refine ls_assign (x := x97) (by kernel_rfl) (by kernel_rfl) ?_
              refine ls_nil ?_
              refine then_normal ?_
              refine fr_eq (b := ⟨([x0, x1, x2, undef, undef, undef, x97, x20, x24, x27, x30, x11, x45, x51, x14, (D_1 1), (D_1 2), x0, x18, x19, x20, x1, x22, x23, x24, x2, x26, x27, x20, x24, x30, x30, x32, x11, x27, x35, (D 3), (D 4), (D 5), (D 6), (D 7), (D 8), (D 9), (D 10), x30, x45, x27, x20, x48, x49] ++ [x20, x51, x45, x53, x51, x24, x56, x57, x58, x14, x27, x61, (D_1 6), (D_1 7), (D_1 8), (D_1 9), (D_1 10), (D_1 11), (D_1 12), (D_1 13), (D_1 14), (D_1 15), (D_1 16), (D_1 17), (D_1 18), (D_1 19), (D_1 20), (D_1 21), (D_1 22), (D_1 23), (D_1 24), (D_1 25), (D_1 26), (D_1 27), (D_1 28), (D_1 29), (D_1 30), (D_1 31), (D_1 32), (D_1 33), (D_1 34), (D_1 35), (D_1 36), (D_1 37), (D_1 38), (D_1 39), (D_1 40), x97]).toArray, []⟩) (by kernel_rfl) ?_
              refine wp_ret ?_
              exact end1 (Tryd.results3) (by kernel_rfl) (by kernel_rfl) HA_12 H _ (.inr rfl)

end Go.Proofs.YtmhhjpfkipficaaDoor

end

section
/- Screens: the law of plain text. -/
set_option linter.unusedSimpArgs false
set_option linter.unusedVariables false
namespace Go.Proofs.YtmhhjpfkipficaaDoor
open Go Go.HW

section
variable {h0 h : Heap} {F : List HP} {R : Value → Heap → Prop} {k kg : Nat} {m : Sc} {C : Cel} {off : List (List Ce)} {a b : Int} {i : Nat}
theorem ch_go {i : Int} (hi : 0 ≤ i ∧ i < 1000000) {K : Value → Prop} : sRem .i64 (.int .i64 i) (.int .i64 26) (fun x => sAdd .i64 (.int .i64 97) x fun y => sConv .i32 y K) = K (.int .i32 (ch i)) := by
  have hc : ∀ n : Int, -2147483648 ≤ n → n ≤ 2147483647 → IntKind.i32.wrap n = n := fun n h1 h2 => by
    exact wrap_s 31 rfl rfl (by omega) (by omega)
  rw [ev_rem (by decide), Int.tmod_eq_emod_of_nonneg hi.1, ev_add, wrap_i64 (by omega) (by omega), ev_conv, hc _ (by omega) (by omega)]
  rfl
theorem Text_spec {x0 x1 x2 : Int} (hG : G h) (hw : 0 ≤ x0 ∧ x0 < 256) (hh : 0 ≤ x1 ∧ x1 < 256) (hn : 0 ≤ x2 ∧ x2 < 65536) (H : ∀ h', Ext h h' → R (.bool true) h') : betonylaw24_ScreenText_c (.int .u8 x0) (.int .u8 x1) (.int .u16 x2) h R := by
  apply betonylaw24_ScreenText_runs
  unfold betonylaw24_ScreenText_S
  rw [sz16 (by omega), sz16 (by omega)]
  obtain ⟨a, ha⟩ : ∃ a, 1 + x0 % 16 = a := ⟨_, rfl⟩
  obtain ⟨b, hb⟩ : ∃ b, 1 + x1 % 16 = b := ⟨_, rfl⟩
  obtain ⟨N, hN⟩ : ∃ N : Nat, x2 % 400 = N := ⟨(x2 % 400).toNat, by omega⟩
  rw [ha, hb, ev_conv, wrap_i64 (by omega) (by omega), ev_rem (by decide), Int.tmod_eq_emod_of_nonneg hn.1, hN]
  have hNb : N < 400 := by omega
  refine New_spec (by unfold i64; omega) (by unfold i64; omega) (fun hn => (hn (by omega)).elim) (fun hs k st h1 s1 => ?_)
  have e0 : ∀ {K : Value → Prop}, sEqlNil (ptr k 0) K = K (.bool false) := by intro K; simp only [ptr, ev_eqlNil, Option.isNone_some]
  rw [e0, ev_if, if_neg (by decide)]
  refine ⟨fun t h' => ∃ (i : Nat) (m : Sc) (C : Cel) (off : List (List Ce)), i ≤ N ∧ t = .int .i64 i ∧ Txt a b i m C off ∧ HW.Sep h [Scr k m C off] h', fun t _ => match t with | .int _ i => ((N : Int) - i).toNat | _ => 0, ⟨0, _, _, _, by omega, rfl, text_new hs, s1⟩, ?_⟩
  rintro _ h2 ⟨i, m, C, off, hi, rfl, t, s2⟩
  simp only []
  unfold betonylaw24_ScreenText_l1
  rw [ev_lt, ev_if]
  have to := text_off t
  by_cases hl : (i : Int) < N
  · rw [if_pos (decide_eq_true hl), ch_go (by omega)]
    refine text_step hG t (by omega) s2 (fun m' C' off' h3 t3 s3 => ?_)
    rw [ev_add, wrap_i64 (by omega) (by omega)]
    exact ⟨⟨i + 1, m', C', off', by omega, by rw [Int.natCast_add]; rfl, t3, s3⟩, by simp only; omega⟩
  rw [if_neg (by simpa using hl)]
  have hiN : i = N := by omega
  subst hiN
  refine Off_spec s2 (fun ov rs h3 e s3 => ?_)
  have hrl : rs.length = off.length := by rw [← e]; simp
  have qv := s3.seq
  have aw := hs
  obtain ⟨md, cl, Q, q0, q1, q2, q3, q4⟩ := t
  have ox := md.ok.x
  have ew := md.w
  have eg := md.g
  have hlx := md.ok.late
  have hQ1 : Q * 1 ≤ Q * a := Int.mul_le_mul_of_nonneg_left hs.1 q0
  have hrows : ((i : Int) + a - 1) / a - b = Q + 1 - b ∨ (i = 0 ∧ ((i : Int) + a - 1) / a = 0 ∧ Q = 0) := by
    have key : ∀ r : Int, 1 ≤ r ∧ r ≤ a → (i : Int) = Q * a + r → ((i : Int) + a - 1) / a = Q + 1 := fun r hr hh => by
      rw [hh, show Q * a + r + a - 1 = (r - 1) + (Q + 1) * a by rw [Int.add_mul]; omega, Int.add_mul_ediv_right _ _ (by omega), Int.ediv_eq_zero_of_lt (by omega) (by omega)]; omega
    cases hll : m.late with
    | true => left; rw [key a (by omega) (q1 hll)]
    | false =>
      have := q2 hll
      by_cases hx0 : m.x = 0
      · right
        have hi0 := this.2 hx0
        refine ⟨hi0, ?_, ?_⟩
        · rw [hi0, Int.ediv_eq_zero_of_lt (by omega) (by omega)]
        · rw [hi0] at this; omega
      · left; rw [key m.x (by omega) this.1]
  have hq : ((i : Int) + a - 1).tdiv a = ((i : Int) + a - 1) / a := Int.tdiv_eq_ediv_of_nonneg (by omega)
  have hdv : 0 ≤ ((i : Int) + a - 1) / a ∧ ((i : Int) + a - 1) / a ≤ 1000000 := by
    refine ⟨Int.ediv_nonneg (by omega) (by omega), ?_⟩
    have := Int.ediv_le_self a (show 0 ≤ (i : Int) + a - 1 by omega)
    omega
  simp (disch := omega) only [ev_add, ev_sub, wrap_i64, ev_quo (show a ≠ 0 by omega), hq, ev_max, qv.len, List.length_map, ev_ne, ev_if]
  rw [if_neg (by
    rw [hrl, q3]
    unfold mxI
    simp only [bne_iff_ne, ne_eq, Classical.not_not]
    rcases hrows with hr | ⟨h1, h2, h3⟩
    · rw [hr]
    · rw [h2, h3]; split <;> split <;> omega)]
  refine ⟨fun t h' => ∃ (j : Nat), j ≤ i ∧ t = .int .i64 j ∧ HW.Sep h (Sl encCV 1 ov (rs.map (·.1)) :: rowsP rs :: Scr k m C [] :: []) h', fun t _ => match t with | .int _ j => ((i : Int) - j).toNat | _ => 0, ⟨0, by omega, rfl, s3⟩, ?_⟩
  rintro _ h4 ⟨j, hj, rfl, s4⟩
  simp only []
  unfold betonylaw24_ScreenText_l2
  rw [ev_lt, ev_if]
  have hj3 : ∀ (c : Ce) (b15 : Nat) (h5 : Heap), (j : Int) < i → c.r = ch j → HW.Sep h (Blk b15 c.a 31 :: Sl encCV 1 ov (rs.map (·.1)) :: rowsP rs :: Scr k m C [] :: []) h5 → betonylaw24_ScreenText_j3 R (fun x14' h_1 => (∃ (j : Nat), j ≤ i ∧ x14' = .int .i64 j ∧ HW.Sep h (Sl encCV 1 ov (rs.map (·.1)) :: rowsP rs :: Scr k m C [] :: []) h_1) ∧ (match x14' with | .int _ j => ((i : Int) - j).toNat | _ => 0) < ((i : Int) - j).toNat) (.int .i64 j) (ptr b15 0) h5 := by
    intro c b15 h5 hl2 hc s5
    unfold betonylaw24_ScreenText_j3
    have g0 : ∀ {K : Value → Prop}, sLd h5 (ptr b15 0) K = K (.int .i32 c.r) := s5.ld rfl
    rw [ev_off, Nat.zero_add, g0, ch_go (by omega), hc, ev_ne, ev_if, if_neg (by simp), ev_add, wrap_i64 (by omega) (by omega)]
    exact ⟨⟨j + 1, by omega, by rw [Int.natCast_add]; rfl, s5.tail⟩, by simp only; omega⟩
  by_cases hl2 : (j : Int) < i
  · rw [if_pos (decide_eq_true hl2)]
    refine build_intro (cs := ce0.a) rfl ?_
    refine s4.new (fun b15 h5 s5 => ?_)
    refine s5.stall (cs := ce0.a) rfl rfl (ce_cell _) (fun h6 s6 => ?_)
    have qv6 := s6.b1.seq
    have ea := Int.emod_add_mul_ediv (j : Int) a
    have em := Int.emod_nonneg (j : Int) (show a ≠ 0 by omega)
    have el := Int.emod_lt_of_pos (j : Int) (show 0 < a by omega)
    have ed : 0 ≤ (j : Int) / a := Int.ediv_nonneg (by omega) (by omega)
    rw [Int.mul_comm a] at ea
    have t1 : (j : Int).tdiv a = (j : Int) / a := Int.tdiv_eq_ediv_of_nonneg (by omega)
    have t2 : (j : Int).tmod a = (j : Int) % a := Int.tmod_eq_emod_of_nonneg (by omega)
    have edl : (j : Int) / a ≤ j := Int.ediv_le_self a (by omega)
    simp (disch := omega) only [ev_quo (show a ≠ 0 by omega), ev_rem (show a ≠ 0 by omega), t1, t2, wrap_i64, qv6.len, List.length_map, ev_lt, ev_if]
    generalize hr : (j : Int) / a = r at ed ea edl ⊢
    generalize hc : (j : Int) % a = c at em el ea ⊢
    by_cases hlen : r < (rs.length : Int)
    · rw [if_pos (decide_eq_true hlen)]
      obtain ⟨rn, rfl⟩ : ∃ rn : Nat, r = rn := ⟨r.toNat, by omega⟩
      obtain ⟨cn, rfl⟩ : ∃ cn : Nat, c = cn := ⟨c.toNat, by omega⟩
      obtain ⟨p, hp⟩ : ∃ p, rs[rn]? = some p := ⟨rs[rn], List.getElem?_eq_getElem (by omega)⟩
      have hrow : off[rn]? = some p.2 := by rw [← e, List.getElem?_map, hp]; rfl
      obtain ⟨l1, l2⟩ := cl.rows rn p.2 hrow
      have hpm : (rs.map (·.1))[rn]? = some p.1 := by rw [List.getElem?_map, hp]; rfl
      have qr := rows_seq s6.b2 hp
      rw [qv6.elt (by rw [List.length_map]; omega), qv6.eltld0 hpm rfl]
      have hcn : cn < p.2.length := by omega
      have hg : p.2[cn]? = some (p.2.getD cn ce0) := by rw [List.getD_eq_getElem?_getD, List.getElem?_eq_getElem hcn]; rfl
      rw [qr.elt hcn, qr.eltn hg rfl]
      refine s6.stall (cs := (p.2.getD cn ce0).a) rfl rfl (ce_cell _) (fun h7 s7 => ?_)
      exact hj3 _ b15 h7 hl2 (by rw [l2 cn el, ← ea, Int.add_comm]) s7
    · rw [if_neg (by simpa using hlen)]
      simp (disch := omega) only [ev_sub, wrap_i64]
      have og := md.ok.g
      refine At_spec (by unfold i64; omega) (by unfold i64; omega) s6.b3 (fun h7 e7 => ?_)
      refine (s6.ext' e7).stall (cs := (C c (r - rs.length)).a) rfl rfl (ce_cell _) (fun h8 s8 => ?_)
      refine hj3 _ b15 h8 hl2 ?_ s8
      have hrQ : r ≤ Q := by
        apply Classical.byContradiction
        intro hh
        have h1 := (lex (a := a) (r := Q) (s := r) (x := a - 1) (y := c) (by omega) ⟨em, el⟩).2 (.inl (by omega))
        cases hll : m.late with
        | true => have := q1 hll; omega
        | false => have := (q2 hll).1; omega
      have hin : inG a b c (r - rs.length) = true := inG_iff.2 ⟨⟨em, el⟩, by omega, by unfold mxI at q3; split at q3 <;> omega⟩
      rw [cl.cells _ _ hin, hrl, show r - (off.length : Int) + off.length = r by omega, show r * a + c = (j : Int) by omega, if_pos hl2]
  · rw [if_neg (by simpa using hl2)]
    exact awake_spec (hG.ext s4.ext) (fun h5 e5 => H h5 (s4.ext.trans e5))
end
end Go.Proofs.YtmhhjpfkipficaaDoor

end
