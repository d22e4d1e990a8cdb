/- The shallow reading of one function, and that the function does it. Written by a program. -/
import Derived.Test.YthhpieidlpjbmaaFnC
set_option linter.unusedVariables false
namespace Go.Proofs.Ythhpieidlpjbmaa
open Go Go.HW

def betonylaw06_GridBack_l1 (R : Value → Heap → Prop) (x0 x2 x3 x5 x19 x20 : Value) (next : Value → Heap → Prop) (x11 : Value) (h_4 : Heap) : Prop :=
  sLen x0 fun x29 =>
  sLt x11 x29 fun x30 =>
  sIf x30 (sIxS x0 x11 11 fun x36 =>
  sOff x36 1 fun x37 =>
  sLdN h_4 x37 4 fun x38 =>
  sIxS x0 x11 11 fun x41 =>
  sOff x41 7 fun x42 =>
  sLdN h_4 x42 4 fun x43 =>
  grid_Grid_Fill_c x19 x38 x43 h_4 fun x44 h_5 => 
  sAdd .i64 x11 (.int .i64 1) fun x32 =>
  next x32 h_5) (sLdN h_4 x5 4 fun x47 =>
  sConv .i64 x2 fun x49 =>
  sRem .i64 x49 (.int .i64 12) fun x50 =>
  sConv .i64 x3 fun x52 =>
  sRem .i64 x52 (.int .i64 12) fun x53 =>
  grid_Grid_Blit_c x19 x20 x47 x50 x53 h_4 fun x54 h_6 => 
  sEq x54 (.int .i64 0) fun x56 =>
  sIf x56 (betonylaw06_awake_c  h_6 fun x57 h_7 => 
  R x57 h_7) (grid_Grid_Clone_c x19 h_6 fun x59 h_8 => 
  sConv .i64 x2 fun x63 =>
  sRem .i64 x63 (.int .i64 12) fun x64 =>
  sConv .i64 x3 fun x66 =>
  sRem .i64 x66 (.int .i64 12) fun x67 =>
  sOff x5 2 fun x68 =>
  sLd h_8 x68 fun x69 =>
  sOff x5 3 fun x70 =>
  sLd h_8 x70 fun x71 =>
  sBuild #[.int .i64 0, .int .i64 0, .int .i64 0, .int .i64 0] [(0, 1, x64), (1, 1, x67), (2, 1, x69), (3, 1, x71)] fun x72 =>
  sOff x5 0 fun x73 =>
  sLd h_8 x73 fun x74 =>
  sOff x5 1 fun x75 =>
  sLd h_8 x75 fun x76 =>
  grid_Grid_Blit_c x20 x19 x72 x74 x76 h_8 fun x77 h_9 => 
  sGe x77 x54 fun x80 =>
  sAndH x80 h_9 (fun k_1 =>
  sGt x77 x54 fun x84 =>
  sOrH x84 h_9 (fun k_2 =>
  grid_Grid_Equal_c x19 x59 h_9 fun x88 h_14 => 
  k_2 x88 h_14) fun x89 h_13 =>
  k_1 x89 h_13) fun x90 h_10 =>
  sAndH x90 h_10 (fun k =>
  betonylaw06_awake_c  h_10 fun x92 h_12 => 
  k x92 h_12) fun x93 h_11 =>
  R x93 h_11))
def betonylaw06_GridBack_S (x0 x1 x2 x3 : Value) (h : Heap) (R : Value → Heap → Prop) : Prop :=
  sBox h x1 23 fun x5 h => 
  sLen x0 fun x16 =>
  sGt x16 (.int .i64 40) fun x17 =>
  sIf x17 (betonylaw06_awake_c  h fun x18 h_1 => 
  R x18 h_1) (grid_New_c (.int .i64 12) (.int .i64 12) h fun x19 h_2 => 
  grid_New_c (.int .i64 12) (.int .i64 12) h_2 fun x20 h_3 => 
  sEqlNil x19 fun x22 =>
  sOr x22 (fun k_3 =>
  sEqlNil x20 fun x25 =>
  k_3 x25) fun x26 =>
  sIf x26 (R (.bool false) h_3) (sLoop (S := Value) (fun nxt s h => betonylaw06_GridBack_l1 R x0 x2 x3 x5 x19 x20 (fun x11' h => nxt x11' h) s h) (.int .i64 0) h_3))
set_option maxRecDepth 100000 in
theorem betonylaw06_GridBack_runs {x0 x1 x2 x3 : Value} {h : Heap} {R : Value → Heap → Prop} (H : betonylaw06_GridBack_S x0 x1 x2 x3 h R) : betonylaw06_GridBack_c x0 x1 x2 x3 h R := by
  unfold betonylaw06_GridBack_S at H
  refine runs_of (b := ⟨([x0, x1, x2, x3, undef, undef, undef, undef, undef, undef, undef, undef, undef, undef, undef, undef, undef, undef, undef, undef, undef, undef, undef, undef, undef, undef, undef, undef, undef, undef, undef, undef, undef, undef, undef, undef, undef, undef, undef, undef, undef, undef, undef, undef, undef, undef, undef, undef, undef, undef] ++ [undef, undef, undef, undef, undef, undef, undef, undef, undef, undef, undef, undef, undef, undef, undef, undef, undef, undef, undef, undef, undef, undef, undef, undef, undef, undef, undef, undef, undef, undef, undef, undef, undef, undef, undef, undef, undef, undef, undef, undef, undef, undef, undef, undef]).toArray, []⟩) Try.call5 Try.func5 rfl (by kernel_rfl) (fun w0 HA => ?_)
  refine wp_seq ?_
  refine lwp_list ?_
  refine ls_d (d := some 5) (by kernel_rfl) (by kernel_rfl) HA (d_box (by kernel_rfl) H) (fun x5 h w H HA => ?_)
  refine ls_assign (x := (.bool false)) (by kernel_rfl) (by kernel_rfl) ?_
  refine ls_nil ?_
  refine then_normal ?_
  refine fr_eq (b := ⟨([x0, x1, x2, x3, undef, x5, undef, undef, (.bool false), undef, undef, undef, undef, undef, undef, undef, undef, undef, undef, undef, undef, undef, undef, undef, undef, undef, undef, undef, undef, undef, undef, undef, undef, undef, undef, undef, undef, undef, undef, undef, undef, undef, undef, undef, undef, undef, undef, undef, undef, undef] ++ [undef, undef, undef, undef, undef, undef, undef, undef, undef, undef, undef, undef, undef, undef, undef, undef, undef, undef, undef, undef, undef, undef, undef, undef, undef, undef, undef, undef, undef, undef, undef, undef, undef, undef, undef, undef, undef, undef, undef, undef, undef, undef, undef, undef]).toArray, []⟩) (by kernel_rfl) ?_
  refine wp_seq ?_
  refine wp_seq ?_
  refine lwp_list ?_
  refine ls_move (x := x0) (by kernel_rfl) (by kernel_rfl) ?_
  refine ls_p (d := some 16) (by kernel_rfl) (by kernel_rfl) (p_len Try.underlying34 (by kernel_rfl) H) (fun x16 H => ?_)
  refine ls_p (d := some 17) (by kernel_rfl) (by kernel_rfl) (p_sGt (by kernel_rfl) (by kernel_rfl) H) (fun x17 H => ?_)
  refine ls_nil ?_
  refine then_normal ?_
  refine fr_eq (b := ⟨([x0, x1, x2, x3, undef, x5, undef, undef, (.bool false), undef, undef, undef, undef, undef, undef, x0, x16, x17, undef, undef, undef, undef, undef, undef, undef, undef, undef, undef, undef, undef, undef, undef, undef, undef, undef, undef, undef, undef, undef, undef, undef, undef, undef, undef, undef, undef, undef, undef, undef, undef] ++ [undef, undef, undef, undef, undef, undef, undef, undef, undef, undef, undef, undef, undef, undef, undef, undef, undef, undef, undef, undef, undef, undef, undef, undef, undef, undef, undef, undef, undef, undef, undef, undef, undef, undef, undef, undef, undef, undef, undef, undef, undef, undef, undef, undef]).toArray, []⟩) (by kernel_rfl) ?_
  refine wp_if rfl H (fun H => ?_) (fun H => ?_)
  · refine wp_seq ?_
    refine lwp_list ?_
    refine ls_d (d := some 18) (by kernel_rfl) (by kernel_rfl) HA (d_call (by kernel_rfl) (by kernel_rfl) H) (fun x18 h_1 w_1 H HA_1 => ?_)
    refine ls_assign (x := x18) (by kernel_rfl) (by kernel_rfl) ?_
    refine ls_nil ?_
    refine then_normal ?_
    refine fr_eq (b := ⟨([x0, x1, x2, x3, undef, x5, undef, undef, x18, undef, undef, undef, undef, undef, undef, x0, x16, x17, x18, undef, undef, undef, undef, undef, undef, undef, undef, undef, undef, undef, undef, undef, undef, undef, undef, undef, undef, undef, undef, undef, undef, undef, undef, undef, undef, undef, undef, undef, undef, undef] ++ [undef, undef, undef, undef, undef, undef, undef, undef, undef, undef, undef, undef, undef, undef, undef, undef, undef, undef, undef, undef, undef, undef, undef, undef, undef, undef, undef, undef, undef, undef, undef, undef, undef, undef, undef, undef, undef, undef, undef, undef, undef, undef, undef, undef]).toArray, []⟩) (by kernel_rfl) ?_
    refine wp_ret ?_
    refine then_ret ?_
    exact end1 (Try.results5) (by kernel_rfl) (by kernel_rfl) HA_1 H _ (.inr rfl)
  · refine wp_skip ?_
    refine then_normal ?_
    refine fr_eq (b := ⟨([x0, x1, x2, x3, undef, x5, undef, undef, (.bool false), undef, undef, undef, undef, undef, undef, x0, x16, x17, undef, undef, undef, undef, undef, undef, undef, undef, undef, undef, undef, undef, undef, undef, undef, undef, undef, undef, undef, undef, undef, undef, undef, undef, undef, undef, undef, undef, undef, undef, undef, undef] ++ [undef, undef, undef, undef, undef, undef, undef, undef, undef, undef, undef, undef, undef, undef, undef, undef, undef, undef, undef, undef, undef, undef, undef, undef, undef, undef, undef, undef, undef, undef, undef, undef, undef, undef, undef, undef, undef, undef, undef, undef, undef, undef, undef, undef]).toArray, []⟩) (by kernel_rfl) ?_
    refine wp_seq ?_
    refine lwp_list ?_
    refine ls_d (d := some 19) (by kernel_rfl) (by kernel_rfl) HA (d_call (by kernel_rfl) (by kernel_rfl) H) (fun x19 h_2 w_2 H HA_2 => ?_)
    refine ls_d (d := some 20) (by kernel_rfl) (by kernel_rfl) HA_2 (d_call (by kernel_rfl) (by kernel_rfl) H) (fun x20 h_3 w_3 H HA_3 => ?_)
    refine ls_assign (x := x19) (by kernel_rfl) (by kernel_rfl) ?_
    refine ls_assign (x := x20) (by kernel_rfl) (by kernel_rfl) ?_
    refine ls_nil ?_
    refine then_normal ?_
    refine fr_eq (b := ⟨([x0, x1, x2, x3, undef, x5, undef, undef, (.bool false), x19, x20, undef, undef, undef, undef, x0, x16, x17, undef, x19, x20, undef, undef, undef, undef, undef, undef, undef, undef, undef, undef, undef, undef, undef, undef, undef, undef, undef, undef, undef, undef, undef, undef, undef, undef, undef, undef, undef, undef, undef] ++ [undef, undef, undef, undef, undef, undef, undef, undef, undef, undef, undef, undef, undef, undef, undef, undef, undef, undef, undef, undef, undef, undef, undef, undef, undef, undef, undef, undef, undef, undef, undef, undef, undef, undef, undef, undef, undef, undef, undef, undef, undef, undef, undef, undef]).toArray, []⟩) (by kernel_rfl) ?_
    refine wp_seq ?_
    refine wp_seq ?_
    refine lwp_list ?_
    refine ls_move (x := x19) (by kernel_rfl) (by kernel_rfl) ?_
    refine ls_p (d := some 22) (by kernel_rfl) (by kernel_rfl) (p_eqlNil Try.underlying28 (by kernel_rfl) (by kernel_rfl) H) (fun x22 H => ?_)
    refine ls_move (x := x22) (by kernel_rfl) (by kernel_rfl) ?_
    refine ls_or [(), (), ()] (fun K a w => ∃ (D : Nat → Value) (x26 : Value), a = ⟨([x0, x1, x2, x3, undef, x5, undef, undef, (.bool false), x19, x20, undef, undef, undef, undef, x0, x16, x17, undef, x19, x20, x19, x22, x22, (D 0), (D 1), x26, undef, undef, undef, undef, undef, undef, undef, undef, undef, undef, undef, undef, undef, undef, undef, undef, undef, undef, undef, undef, undef, undef, undef] ++ [undef, undef, undef, undef, undef, undef, undef, undef, undef, undef, undef, undef, undef, undef, undef, undef, undef, undef, undef, undef, undef, undef, undef, undef, undef, undef, undef, undef, undef, undef, undef, undef, undef, undef, undef, undef, undef, undef, undef, undef, undef, undef, undef, undef]).toArray, []⟩ ∧ At w0 w h_3 ∧ K x26) H (fun hb_3 H => ?_) (fun hb_3 H => ?_) ?_
    · refine ls_move (x := x20) (by rw [hb_3]; kernel_rfl) (by kernel_rfl) ?_
      refine ls_p (d := some 25) (by kernel_rfl) (by rw [hb_3]; kernel_rfl) (p_eqlNil Try.underlying28 (by kernel_rfl) (by kernel_rfl) H) (fun x25 H => ?_)
      refine ls_pick_f (y := x25) (by kernel_rfl) (by rw [hb_3]; kernel_rfl) (by kernel_rfl) ?_
      refine ls_nil ?_
      refine then_normal ?_
      exact ⟨(fun i => ([x20, x25]).getD i undef), x25, by kernel_rfl, HA_3, H⟩
    · refine ls_skip (d := some 24) (by kernel_rfl) (by rw [hb_3]; kernel_rfl) ?_
      refine ls_skip (d := some 25) (by kernel_rfl) (by rw [hb_3]; kernel_rfl) ?_
      refine ls_pick_t (x := (.bool true)) (by kernel_rfl) (by rw [hb_3]; kernel_rfl) (by kernel_rfl) ?_
      refine ls_nil ?_
      refine then_normal ?_
      exact ⟨(fun i => ([undef, undef]).getD i undef), (.bool true), by kernel_rfl, HA_3, H⟩
    · rintro _ w_4 ⟨D, x26, rfl, HA_4, H⟩
      refine ls_nil ?_
      refine then_normal ?_
      refine fr_eq (b := ⟨([x0, x1, x2, x3, undef, x5, undef, undef, (.bool false), x19, x20, undef, undef, undef, undef, x0, x16, x17, undef, x19, x20, x19, x22, x22, (D 0), (D 1), x26, undef, undef, undef, undef, undef, undef, undef, undef, undef, undef, undef, undef, undef, undef, undef, undef, undef, undef, undef, undef, undef, undef, undef] ++ [undef, undef, undef, undef, undef, undef, undef, undef, undef, undef, undef, undef, undef, undef, undef, undef, undef, undef, undef, undef, undef, undef, undef, undef, undef, undef, undef, undef, undef, undef, undef, undef, undef, undef, undef, undef, undef, undef, undef, undef, undef, undef, undef, undef]).toArray, []⟩) (by kernel_rfl) ?_
      refine wp_if rfl H (fun H => ?_) (fun H => ?_)
      · refine wp_seq ?_
        refine lwp_list ?_
        refine ls_assign (x := (.bool false)) (by kernel_rfl) (by kernel_rfl) ?_
        refine ls_nil ?_
        refine then_normal ?_
        refine fr_eq (b := ⟨([x0, x1, x2, x3, undef, x5, undef, undef, (.bool false), x19, x20, undef, undef, undef, undef, x0, x16, x17, undef, x19, x20, x19, x22, x22, (D 0), (D 1), x26, undef, undef, undef, undef, undef, undef, undef, undef, undef, undef, undef, undef, undef, undef, undef, undef, undef, undef, undef, undef, undef, undef, undef] ++ [undef, undef, undef, undef, undef, undef, undef, undef, undef, undef, undef, undef, undef, undef, undef, undef, undef, undef, undef, undef, undef, undef, undef, undef, undef, undef, undef, undef, undef, undef, undef, undef, undef, undef, undef, undef, undef, undef, undef, undef, undef, undef, undef, undef]).toArray, []⟩) (by kernel_rfl) ?_
        refine wp_ret ?_
        refine then_ret ?_
        exact end1 (Try.results5) (by kernel_rfl) (by kernel_rfl) HA_4 H _ (.inr rfl)
      · refine wp_skip ?_
        refine then_normal ?_
        refine fr_eq (b := ⟨([x0, x1, x2, x3, undef, x5, undef, undef, (.bool false), x19, x20, undef, undef, undef, undef, x0, x16, x17, undef, x19, x20, x19, x22, x22, (D 0), (D 1), x26, undef, undef, undef, undef, undef, undef, undef, undef, undef, undef, undef, undef, undef, undef, undef, undef, undef, undef, undef, undef, undef, undef, undef] ++ [undef, undef, undef, undef, undef, undef, undef, undef, undef, undef, undef, undef, undef, undef, undef, undef, undef, undef, undef, undef, undef, undef, undef, undef, undef, undef, undef, undef, undef, undef, undef, undef, undef, undef, undef, undef, undef, undef, undef, undef, undef, undef, undef, undef]).toArray, []⟩) (by kernel_rfl) ?_
        refine wp_seq ?_
        refine wp_seq ?_
        refine lwp_list ?_
        refine ls_assign (x := (.int .i64 0)) (by kernel_rfl) (by kernel_rfl) ?_
        refine ls_nil ?_
        refine then_normal ?_
        refine fr_eq (b := ⟨([x0, x1, x2, x3, undef, x5, undef, undef, (.bool false), x19, x20, (.int .i64 0), undef, undef, undef, x0, x16, x17, undef, x19, x20, x19, x22, x22, (D 0), (D 1), x26, undef, undef, undef, undef, undef, undef, undef, undef, undef, undef, undef, undef, undef, undef, undef, undef, undef, undef, undef, undef, undef, undef, undef] ++ [undef, undef, undef, undef, undef, undef, undef, undef, undef, undef, undef, undef, undef, undef, undef, undef, undef, undef, undef, undef, undef, undef, undef, undef, undef, undef, undef, undef, undef, undef, undef, undef, undef, undef, undef, undef, undef, undef, undef, undef, undef, undef, undef, undef]).toArray, []⟩) (by kernel_rfl) ?_
        refine wp_block ?_
        obtain ⟨I, m, H0, HB⟩ := H
        refine wp_loop (fun a w => ∃ (D_1 : Nat → Value) (x11 : Value) (h_4 : Heap), a = ⟨([x0, x1, x2, x3, undef, x5, undef, undef, (.bool false), x19, x20, x11, undef, undef, undef, x0, x16, x17, undef, x19, x20, x19, x22, x22, (D 0), (D 1), x26, (D_1 0), (D_1 1), (D_1 2), (D_1 3), (D_1 4), (D_1 5), (D_1 6), (D_1 7), (D_1 8), (D_1 9), (D_1 10), (D_1 11), (D_1 12), (D_1 13), (D_1 14), (D_1 15), (D_1 16), (D_1 17), undef, undef, undef, undef, undef] ++ [undef, undef, undef, undef, undef, undef, undef, undef, undef, undef, undef, undef, undef, undef, undef, undef, undef, undef, undef, undef, undef, undef, undef, undef, undef, undef, undef, undef, undef, undef, undef, undef, undef, undef, undef, undef, undef, undef, undef, undef, undef, undef, undef, undef]).toArray, []⟩ ∧ At w0 w h_4 ∧ I x11 h_4) (fun a w => m (a.tmps.getD 11 undef) w.heap) ?_ ?_
        · exact ⟨(fun i => ([undef, undef, undef, undef, undef, undef, undef, undef, undef, undef, undef, undef, undef, undef, undef, undef, undef, undef]).getD i undef), (.int .i64 0), h_3, by kernel_rfl, HA_4, H0⟩
        · rintro _ w_5 ⟨D_1, x11, h_4, rfl, HA_5, HI⟩
          have H : betonylaw06_GridBack_l1 R x0 x2 x3 x5 x19 x20 (fun x11' h' => I x11' h' ∧ m x11' h' < m x11 h_4) x11 h_4 := HB x11 h_4 HI
          clear HB H0 HI
          unfold betonylaw06_GridBack_l1 at H
          refine wp_seq ?_
          refine wp_seq ?_
          refine lwp_list ?_
          refine ls_move (x := x11) (by kernel_rfl) (by kernel_rfl) ?_
          refine ls_move (x := x0) (by kernel_rfl) (by kernel_rfl) ?_
          refine ls_p (d := some 29) (by kernel_rfl) (by kernel_rfl) (p_len Try.underlying34 (by kernel_rfl) H) (fun x29 H => ?_)
          refine ls_p (d := some 30) (by kernel_rfl) (by kernel_rfl) (p_sLt (by kernel_rfl) (by kernel_rfl) H) (fun x30 H => ?_)
          refine ls_nil ?_
          refine then_normal ?_
          refine fr_eq (b := ⟨([x0, x1, x2, x3, undef, x5, undef, undef, (.bool false), x19, x20, x11, undef, undef, undef, x0, x16, x17, undef, x19, x20, x19, x22, x22, (D 0), (D 1), x26, x11, x0, x29, x30, (D_1 4), (D_1 5), (D_1 6), (D_1 7), (D_1 8), (D_1 9), (D_1 10), (D_1 11), (D_1 12), (D_1 13), (D_1 14), (D_1 15), (D_1 16), (D_1 17), undef, undef, undef, undef, undef] ++ [undef, undef, undef, undef, undef, undef, undef, undef, undef, undef, undef, undef, undef, undef, undef, undef, undef, undef, undef, undef, undef, undef, undef, undef, undef, undef, undef, undef, undef, undef, undef, undef, undef, undef, undef, undef, undef, undef, undef, undef, undef, undef, undef, undef]).toArray, []⟩) (by kernel_rfl) ?_
          refine wp_if rfl H (fun H => ?_) (fun H => ?_)
          · refine wp_skip ?_
            refine then_normal ?_
            refine fr_eq (b := ⟨([x0, x1, x2, x3, undef, x5, undef, undef, (.bool false), x19, x20, x11, undef, undef, undef, x0, x16, x17, undef, x19, x20, x19, x22, x22, (D 0), (D 1), x26, x11, x0, x29, x30, (D_1 4), (D_1 5), (D_1 6), (D_1 7), (D_1 8), (D_1 9), (D_1 10), (D_1 11), (D_1 12), (D_1 13), (D_1 14), (D_1 15), (D_1 16), (D_1 17), undef, undef, undef, undef, undef] ++ [undef, undef, undef, undef, undef, undef, undef, undef, undef, undef, undef, undef, undef, undef, undef, undef, undef, undef, undef, undef, undef, undef, undef, undef, undef, undef, undef, undef, undef, undef, undef, undef, undef, undef, undef, undef, undef, undef, undef, undef, undef, undef, undef, undef]).toArray, []⟩) (by kernel_rfl) ?_
            refine wp_seq ?_
            refine wp_block ?_
            refine lwp_mx (Nat.testBit 2048) (Nat.testBit 0) (Nat.testBit 991) [0, 0, 0, 6, 14, 30, 0, 0, 192, 448, 960, 2047] (Nat.testBit 0) (fun h' => h' = h_4) [0, 1, 2, 3, 4, 5, 6, 7, 8, 9, 10, 11] (by kernel_rfl) (by kernel_rfl) (by kernel_rfl) (by kernel_rfl) HA_5 rfl ?_
            intro w_6 HA_6
            refine lm_al (x := x19) (d := some 33) (by kernel_rfl) rfl (by kernel_rfl) (by kernel_rfl) (al_move (by kernel_rfl)) ?_
            refine lm_al (x := x0) (d := some 34) (by kernel_rfl) rfl (by kernel_rfl) (by kernel_rfl) (al_move (by kernel_rfl)) ?_
            refine lm_al (x := x11) (d := some 35) (by kernel_rfl) rfl (by kernel_rfl) (by kernel_rfl) (al_move (by kernel_rfl)) ?_
            refine lm_p (d := some 36) (by kernel_rfl) rfl (by kernel_rfl) (by kernel_rfl) (p_ixs Try.underlying34 Try.sizeOf40 (by kernel_rfl) (by kernel_rfl) H) (fun x36 H => ?_)
            refine lm_p (d := some 37) (by kernel_rfl) rfl (by kernel_rfl) (by kernel_rfl) (p_off Try.underlying40 rfl (fun w => ⟨_, Try.sizeOf23 w⟩) rfl (by kernel_rfl) H) (fun x37 H => ?_)
            refine lm_f (d := some 38) (by kernel_rfl) rfl (by kernel_rfl) (by kernel_rfl) (by kernel_rfl) (by kernel_rfl) (of_eq (y_ldn Try.isAgg23 Try.sizeOf23 (by kernel_rfl) H)) (fun x38 H => ?_)
            refine lm_fr (b := ⟨([x0, x1, x2, x3, undef, x5, undef, undef, (.bool false), x19, x20, x11, undef, undef, undef, x0, x16, x17, undef, x19, x20, x19, x22, x22, (D 0), (D 1), x26, x11, x0, x29, x30, (D_1 4), (D_1 5), x19, x0, x11, x36, x37, x38, (D_1 12), (D_1 13), (D_1 14), (D_1 15), (D_1 16), (D_1 17), undef, undef, undef, undef, undef] ++ [undef, undef, undef, undef, undef, undef, undef, undef, undef, undef, undef, undef, undef, undef, undef, undef, undef, undef, undef, undef, undef, undef, undef, undef, undef, undef, undef, undef, undef, undef, undef, undef, undef, undef, undef, undef, undef, undef, undef, undef, undef, undef, undef, undef]).toArray, []⟩) (by kernel_rfl) ?_
            refine lm_al (x := x0) (d := some 39) (by kernel_rfl) rfl (by kernel_rfl) (by kernel_rfl) (al_move (by kernel_rfl)) ?_
            refine lm_al (x := x11) (d := some 40) (by kernel_rfl) rfl (by kernel_rfl) (by kernel_rfl) (al_move (by kernel_rfl)) ?_
            refine lm_p (d := some 41) (by kernel_rfl) rfl (by kernel_rfl) (by kernel_rfl) (p_ixs Try.underlying34 Try.sizeOf40 (by kernel_rfl) (by kernel_rfl) H) (fun x41 H => ?_)
            refine lm_p (d := some 42) (by kernel_rfl) rfl (by kernel_rfl) (by kernel_rfl) (p_off Try.underlying40 rfl (fun w => ⟨_, Try.sizeOf27 w⟩) rfl (by kernel_rfl) H) (fun x42 H => ?_)
            refine lm_f (d := some 43) (by kernel_rfl) rfl (by kernel_rfl) (by kernel_rfl) (by kernel_rfl) (by kernel_rfl) (of_eq (y_ldn Try.isAgg27 Try.sizeOf27 (by kernel_rfl) H)) (fun x43 H => ?_)
            refine lm_d (d := some 44) (by kernel_rfl) rfl (by kernel_rfl) (by kernel_rfl) (by kernel_rfl) HA_6 (d_call (by kernel_rfl) (by kernel_rfl) H) (fun x44 h_5 w_7 H HA_7 => ?_)
            refine lm_nil ?_
            refine block_normal ?_
            refine then_normal ?_
            refine fr_eq (b := ⟨([x0, x1, x2, x3, undef, x5, undef, undef, (.bool false), x19, x20, x11, undef, undef, undef, x0, x16, x17, undef, x19, x20, x19, x22, x22, (D 0), (D 1), x26, x11, x0, x29, x30, (D_1 4), (D_1 5), x19, x0, x11, x36, x37, x38, x0, x11, x41, x42, x43, x44, undef, undef, undef, undef, undef] ++ [undef, undef, undef, undef, undef, undef, undef, undef, undef, undef, undef, undef, undef, undef, undef, undef, undef, undef, undef, undef, undef, undef, undef, undef, undef, undef, undef, undef, undef, undef, undef, undef, undef, undef, undef, undef, undef, undef, undef, undef, undef, undef, undef, undef]).toArray, []⟩) (by kernel_rfl) ?_
            refine lwp_list ?_
            refine ls_move (x := x11) (by kernel_rfl) (by kernel_rfl) ?_
            refine ls_p (d := some 32) (by kernel_rfl) (by kernel_rfl) (p_add (by kernel_rfl) (by kernel_rfl) H) (fun x32 H => ?_)
            refine ls_assign (x := x32) (by kernel_rfl) (by kernel_rfl) ?_
            refine ls_nil ?_
            exact ⟨⟨(fun i => ([x11, x0, x29, x30, x11, x32, x19, x0, x11, x36, x37, x38, x0, x11, x41, x42, x43, x44]).getD i undef), x32, h_5, by kernel_rfl, HA_7, H.1⟩, loop_lt HA_7.heap HA_5.heap (by kernel_rfl) (by kernel_rfl) H.2⟩
          · refine wp_exit ?_
            refine then_exit ?_
            refine then_exit ?_
            refine block_exit ?_
            refine then_normal ?_
            refine fr_eq (b := ⟨([x0, x1, x2, x3, undef, x5, undef, undef, (.bool false), x19, x20, x11, undef, undef, undef, x0, x16, x17, undef, x19, x20, x19, x22, x22, (D 0), (D 1), x26, x11, x0, x29, x30, (D_1 4), (D_1 5), (D_1 6), (D_1 7), (D_1 8), (D_1 9), (D_1 10), (D_1 11), (D_1 12), (D_1 13), (D_1 14), (D_1 15), (D_1 16), (D_1 17), undef, undef, undef, undef, undef] ++ [undef, undef, undef, undef, undef, undef, undef, undef, undef, undef, undef, undef, undef, undef, undef, undef, undef, undef, undef, undef, undef, undef, undef, undef, undef, undef, undef, undef, undef, undef, undef, undef, undef, undef, undef, undef, undef, undef, undef, undef, undef, undef, undef, undef]).toArray, []⟩) (by kernel_rfl) ?_
            refine wp_seq ?_
            refine lwp_list ?_
            refine ls_move (x := x19) (by kernel_rfl) (by kernel_rfl) ?_
            refine ls_move (x := x20) (by kernel_rfl) (by kernel_rfl) ?_
            refine ls_y (d := some 47) (by kernel_rfl) (by kernel_rfl) HA_5 (y_ldn Try.isAgg23 Try.sizeOf23 (by kernel_rfl) H) (fun x47 H => ?_)
            refine ls_move (x := x2) (by kernel_rfl) (by kernel_rfl) ?_
            refine ls_p (d := some 49) (by kernel_rfl) (by kernel_rfl) (p_conv Try.underlying5 Try.underlying3 (by kernel_rfl) H) (fun x49 H => ?_)
            refine ls_p (d := some 50) (by kernel_rfl) (by kernel_rfl) (p_rem (by kernel_rfl) (by kernel_rfl) H) (fun x50 H => ?_)
            refine ls_fr (b := ⟨([x0, x1, x2, x3, undef, x5, undef, undef, (.bool false), x19, x20, x11, undef, undef, undef, x0, x16, x17, undef, x19, x20, x19, x22, x22, (D 0), (D 1), x26, x11, x0, x29, x30, (D_1 4), (D_1 5), (D_1 6), (D_1 7), (D_1 8), (D_1 9), (D_1 10), (D_1 11), (D_1 12), (D_1 13), (D_1 14), (D_1 15), (D_1 16), (D_1 17), x19, x20, x47, x2, x49] ++ [x50, undef, undef, undef, undef, undef, undef, undef, undef, undef, undef, undef, undef, undef, undef, undef, undef, undef, undef, undef, undef, undef, undef, undef, undef, undef, undef, undef, undef, undef, undef, undef, undef, undef, undef, undef, undef, undef, undef, undef, undef, undef, undef, undef]).toArray, []⟩) (by kernel_rfl) ?_
            refine ls_move (x := x3) (by kernel_rfl) (by kernel_rfl) ?_
            refine ls_p (d := some 52) (by kernel_rfl) (by kernel_rfl) (p_conv Try.underlying5 Try.underlying3 (by kernel_rfl) H) (fun x52 H => ?_)
            refine ls_p (d := some 53) (by kernel_rfl) (by kernel_rfl) (p_rem (by kernel_rfl) (by kernel_rfl) H) (fun x53 H => ?_)
            refine ls_d (d := some 54) (by kernel_rfl) (by kernel_rfl) HA_5 (d_call (by kernel_rfl) (by kernel_rfl) H) (fun x54 h_6 w_8 H HA_8 => ?_)
            refine ls_assign (x := x54) (by kernel_rfl) (by kernel_rfl) ?_
            refine ls_nil ?_
            refine then_normal ?_
            refine fr_eq (b := ⟨([x0, x1, x2, x3, undef, x5, undef, undef, (.bool false), x19, x20, x11, x54, undef, undef, x0, x16, x17, undef, x19, x20, x19, x22, x22, (D 0), (D 1), x26, x11, x0, x29, x30, (D_1 4), (D_1 5), (D_1 6), (D_1 7), (D_1 8), (D_1 9), (D_1 10), (D_1 11), (D_1 12), (D_1 13), (D_1 14), (D_1 15), (D_1 16), (D_1 17), x19, x20, x47, x2, x49] ++ [x50, x3, x52, x53, x54, undef, undef, undef, undef, undef, undef, undef, undef, undef, undef, undef, undef, undef, undef, undef, undef, undef, undef, undef, undef, undef, undef, undef, undef, undef, undef, undef, undef, undef, undef, undef, undef, undef, undef, undef, undef, undef, undef, undef]).toArray, []⟩) (by kernel_rfl) ?_
            refine wp_seq ?_
            refine wp_seq ?_
            refine lwp_list ?_
            refine ls_move (x := x54) (by kernel_rfl) (by kernel_rfl) ?_
            refine ls_p (d := some 56) (by kernel_rfl) (by kernel_rfl) (p_sEq (by kernel_rfl) (by kernel_rfl) H) (fun x56 H => ?_)
            refine ls_nil ?_
            refine then_normal ?_
            refine fr_eq (b := ⟨([x0, x1, x2, x3, undef, x5, undef, undef, (.bool false), x19, x20, x11, x54, undef, undef, x0, x16, x17, undef, x19, x20, x19, x22, x22, (D 0), (D 1), x26, x11, x0, x29, x30, (D_1 4), (D_1 5), (D_1 6), (D_1 7), (D_1 8), (D_1 9), (D_1 10), (D_1 11), (D_1 12), (D_1 13), (D_1 14), (D_1 15), (D_1 16), (D_1 17), x19, x20, x47, x2, x49] ++ [x50, x3, x52, x53, x54, x54, x56, undef, undef, undef, undef, undef, undef, undef, undef, undef, undef, undef, undef, undef, undef, undef, undef, undef, undef, undef, undef, undef, undef, undef, undef, undef, undef, undef, undef, undef, undef, undef, undef, undef, undef, undef, undef, undef]).toArray, []⟩) (by kernel_rfl) ?_
            refine wp_if rfl H (fun H => ?_) (fun H => ?_)
            · refine wp_seq ?_
              refine lwp_list ?_
              refine ls_d (d := some 57) (by kernel_rfl) (by kernel_rfl) HA_8 (d_call (by kernel_rfl) (by kernel_rfl) H) (fun x57 h_7 w_9 H HA_9 => ?_)
              refine ls_assign (x := x57) (by kernel_rfl) (by kernel_rfl) ?_
              refine ls_nil ?_
              refine then_normal ?_
              refine fr_eq (b := ⟨([x0, x1, x2, x3, undef, x5, undef, undef, x57, x19, x20, x11, x54, undef, undef, x0, x16, x17, undef, x19, x20, x19, x22, x22, (D 0), (D 1), x26, x11, x0, x29, x30, (D_1 4), (D_1 5), (D_1 6), (D_1 7), (D_1 8), (D_1 9), (D_1 10), (D_1 11), (D_1 12), (D_1 13), (D_1 14), (D_1 15), (D_1 16), (D_1 17), x19, x20, x47, x2, x49] ++ [x50, x3, x52, x53, x54, x54, x56, x57, undef, undef, undef, undef, undef, undef, undef, undef, undef, undef, undef, undef, undef, undef, undef, undef, undef, undef, undef, undef, undef, undef, undef, undef, undef, undef, undef, undef, undef, undef, undef, undef, undef, undef, undef, undef]).toArray, []⟩) (by kernel_rfl) ?_
              refine wp_ret ?_
              refine then_ret ?_
              exact end1 (Try.results5) (by kernel_rfl) (by kernel_rfl) HA_9 H _ (.inr rfl)
            · refine wp_skip ?_
              refine then_normal ?_
              refine fr_eq (b := ⟨([x0, x1, x2, x3, undef, x5, undef, undef, (.bool false), x19, x20, x11, x54, undef, undef, x0, x16, x17, undef, x19, x20, x19, x22, x22, (D 0), (D 1), x26, x11, x0, x29, x30, (D_1 4), (D_1 5), (D_1 6), (D_1 7), (D_1 8), (D_1 9), (D_1 10), (D_1 11), (D_1 12), (D_1 13), (D_1 14), (D_1 15), (D_1 16), (D_1 17), x19, x20, x47, x2, x49] ++ [x50, x3, x52, x53, x54, x54, x56, undef, undef, undef, undef, undef, undef, undef, undef, undef, undef, undef, undef, undef, undef, undef, undef, undef, undef, undef, undef, undef, undef, undef, undef, undef, undef, undef, undef, undef, undef, undef, undef, undef, undef, undef, undef, undef]).toArray, []⟩) (by kernel_rfl) ?_
              refine wp_seq ?_
              refine lwp_list ?_
              refine ls_move (x := x19) (by kernel_rfl) (by kernel_rfl) ?_
              refine ls_d (d := some 59) (by kernel_rfl) (by kernel_rfl) HA_8 (d_call (by kernel_rfl) (by kernel_rfl) H) (fun x59 h_8 w_10 H HA_10 => ?_)
              refine ls_assign (x := x59) (by kernel_rfl) (by kernel_rfl) ?_
              refine ls_nil ?_
              refine then_normal ?_
              refine fr_eq (b := ⟨([x0, x1, x2, x3, undef, x5, undef, undef, (.bool false), x19, x20, x11, x54, x59, undef, x0, x16, x17, undef, x19, x20, x19, x22, x22, (D 0), (D 1), x26, x11, x0, x29, x30, (D_1 4), (D_1 5), (D_1 6), (D_1 7), (D_1 8), (D_1 9), (D_1 10), (D_1 11), (D_1 12), (D_1 13), (D_1 14), (D_1 15), (D_1 16), (D_1 17), x19, x20, x47, x2, x49] ++ [x50, x3, x52, x53, x54, x54, x56, undef, x19, x59, undef, undef, undef, undef, undef, undef, undef, undef, undef, undef, undef, undef, undef, undef, undef, undef, undef, undef, undef, undef, undef, undef, undef, undef, undef, undef, undef, undef, undef, undef, undef, undef, undef, undef]).toArray, []⟩) (by kernel_rfl) ?_
              refine wp_seq ?_
              refine lwp_list ?_
              refine ls_move (x := x20) (by kernel_rfl) (by kernel_rfl) ?_
              refine ls_move (x := x19) (by kernel_rfl) (by kernel_rfl) ?_
              refine ls_move (x := x2) (by kernel_rfl) (by kernel_rfl) ?_
              refine ls_p (d := some 63) (by kernel_rfl) (by kernel_rfl) (p_conv Try.underlying5 Try.underlying3 (by kernel_rfl) H) (fun x63 H => ?_)
              refine ls_p (d := some 64) (by kernel_rfl) (by kernel_rfl) (p_rem (by kernel_rfl) (by kernel_rfl) H) (fun x64 H => ?_)
              refine ls_move (x := x3) (by kernel_rfl) (by kernel_rfl) ?_
              refine ls_fr (b := ⟨([x0, x1, x2, x3, undef, x5, undef, undef, (.bool false), x19, x20, x11, x54, x59, undef, x0, x16, x17, undef, x19, x20, x19, x22, x22, (D 0), (D 1), x26, x11, x0, x29, x30, (D_1 4), (D_1 5), (D_1 6), (D_1 7), (D_1 8), (D_1 9), (D_1 10), (D_1 11), (D_1 12), (D_1 13), (D_1 14), (D_1 15), (D_1 16), (D_1 17), x19, x20, x47, x2, x49] ++ [x50, x3, x52, x53, x54, x54, x56, undef, x19, x59, x20, x19, x2, x63, x64, x3, undef, undef, undef, undef, undef, undef, undef, undef, undef, undef, undef, undef, undef, undef, undef, undef, undef, undef, undef, undef, undef, undef, undef, undef, undef, undef, undef, undef]).toArray, []⟩) (by kernel_rfl) ?_
              refine ls_p (d := some 66) (by kernel_rfl) (by kernel_rfl) (p_conv Try.underlying5 Try.underlying3 (by kernel_rfl) H) (fun x66 H => ?_)
              refine ls_p (d := some 67) (by kernel_rfl) (by kernel_rfl) (p_rem (by kernel_rfl) (by kernel_rfl) H) (fun x67 H => ?_)
              refine ls_p (d := some 68) (by kernel_rfl) (by kernel_rfl) (p_off Try.underlying23 rfl (fun w => ⟨_, Try.sizeOf3 w⟩) rfl (by kernel_rfl) H) (fun x68 H => ?_)
              refine ls_y (d := some 69) (by kernel_rfl) (by kernel_rfl) HA_10 (y_ld Try.isAgg3 (by kernel_rfl) H) (fun x69 H => ?_)
              refine ls_p (d := some 70) (by kernel_rfl) (by kernel_rfl) (p_off Try.underlying23 rfl (fun w => ⟨_, Try.sizeOf3 w⟩) rfl (by kernel_rfl) H) (fun x70 H => ?_)
              refine ls_y (d := some 71) (by kernel_rfl) (by kernel_rfl) HA_10 (y_ld Try.isAgg3 (by kernel_rfl) H) (fun x71 H => ?_)
              refine ls_fr (b := ⟨([x0, x1, x2, x3, undef, x5, undef, undef, (.bool false), x19, x20, x11, x54, x59, undef, x0, x16, x17, undef, x19, x20, x19, x22, x22, (D 0), (D 1), x26, x11, x0, x29, x30, (D_1 4), (D_1 5), (D_1 6), (D_1 7), (D_1 8), (D_1 9), (D_1 10), (D_1 11), (D_1 12), (D_1 13), (D_1 14), (D_1 15), (D_1 16), (D_1 17), x19, x20, x47, x2, x49] ++ [x50, x3, x52, x53, x54, x54, x56, undef, x19, x59, x20, x19, x2, x63, x64, x3, x66, x67, x68, x69, x70, x71, undef, undef, undef, undef, undef, undef, undef, undef, undef, undef, undef, undef, undef, undef, undef, undef, undef, undef, undef, undef, undef, undef]).toArray, []⟩) (by kernel_rfl) ?_
              refine ls_p (d := some 72) (by kernel_rfl) (by kernel_rfl) (p_lit (pl := [(0, 1), (1, 1), (2, 1), (3, 1)]) Try.zeroValue23 Try.underlying23 ⟨(by kernel_rfl), Try.sizeOf3, (by kernel_rfl), Try.sizeOf3, (by kernel_rfl), Try.sizeOf3, (by kernel_rfl), Try.sizeOf3, trivial⟩ (by kernel_rfl) (by kernel_rfl) H) (fun x72 H => ?_)
              refine ls_p (d := some 73) (by kernel_rfl) (by kernel_rfl) (p_off Try.underlying23 rfl (fun w => ⟨_, Try.sizeOf3 w⟩) rfl (by kernel_rfl) H) (fun x73 H => ?_)
              refine ls_y (d := some 74) (by kernel_rfl) (by kernel_rfl) HA_10 (y_ld Try.isAgg3 (by kernel_rfl) H) (fun x74 H => ?_)
              refine ls_p (d := some 75) (by kernel_rfl) (by kernel_rfl) (p_off Try.underlying23 rfl (fun w => ⟨_, Try.sizeOf3 w⟩) rfl (by kernel_rfl) H) (fun x75 H => ?_)
              refine ls_y (d := some 76) (by kernel_rfl) (by kernel_rfl) HA_10 (y_ld Try.isAgg3 (by kernel_rfl) H) (fun x76 H => ?_)
              refine ls_d (d := some 77) (by kernel_rfl) (by kernel_rfl) HA_10 (d_call (by kernel_rfl) (by kernel_rfl) H) (fun x77 h_9 w_11 H HA_11 => ?_)
              refine ls_fr (b := ⟨([x0, x1, x2, x3, undef, x5, undef, undef, (.bool false), x19, x20, x11, x54, x59, undef, x0, x16, x17, undef, x19, x20, x19, x22, x22, (D 0), (D 1), x26, x11, x0, x29, x30, (D_1 4), (D_1 5), (D_1 6), (D_1 7), (D_1 8), (D_1 9), (D_1 10), (D_1 11), (D_1 12), (D_1 13), (D_1 14), (D_1 15), (D_1 16), (D_1 17), x19, x20, x47, x2, x49] ++ [x50, x3, x52, x53, x54, x54, x56, undef, x19, x59, x20, x19, x2, x63, x64, x3, x66, x67, x68, x69, x70, x71, x72, x73, x74, x75, x76, x77, undef, undef, undef, undef, undef, undef, undef, undef, undef, undef, undef, undef, undef, undef, undef, undef]).toArray, []⟩) (by kernel_rfl) ?_
              refine ls_assign (x := x77) (by kernel_rfl) (by kernel_rfl) ?_
              refine ls_nil ?_
              refine then_normal ?_
              refine fr_eq (b := ⟨([x0, x1, x2, x3, undef, x5, undef, undef, (.bool false), x19, x20, x11, x54, x59, x77, x0, x16, x17, undef, x19, x20, x19, x22, x22, (D 0), (D 1), x26, x11, x0, x29, x30, (D_1 4), (D_1 5), (D_1 6), (D_1 7), (D_1 8), (D_1 9), (D_1 10), (D_1 11), (D_1 12), (D_1 13), (D_1 14), (D_1 15), (D_1 16), (D_1 17), x19, x20, x47, x2, x49] ++ [x50, x3, x52, x53, x54, x54, x56, undef, x19, x59, x20, x19, x2, x63, x64, x3, x66, x67, x68, x69, x70, x71, x72, x73, x74, x75, x76, x77, undef, undef, undef, undef, undef, undef, undef, undef, undef, undef, undef, undef, undef, undef, undef, undef]).toArray, []⟩) (by kernel_rfl) ?_
              refine wp_seq ?_
              refine lwp_list ?_
              refine ls_move (x := x77) (by kernel_rfl) (by kernel_rfl) ?_
              refine ls_move (x := x54) (by kernel_rfl) (by kernel_rfl) ?_
              refine ls_p (d := some 80) (by kernel_rfl) (by kernel_rfl) (p_sGe (by kernel_rfl) (by kernel_rfl) H) (fun x80 H => ?_)
              refine ls_move (x := x80) (by kernel_rfl) (by kernel_rfl) ?_
              refine ls_andh [(), (), (), (), (), (), (), (), ()] (fun K a w => ∃ (D_2 : Nat → Value) (x90 : Value) (h_10 : Heap), a = ⟨([x0, x1, x2, x3, undef, x5, undef, undef, (.bool false), x19, x20, x11, x54, x59, x77, x0, x16, x17, undef, x19, x20, x19, x22, x22, (D 0), (D 1), x26, x11, x0, x29, x30, (D_1 4), (D_1 5), (D_1 6), (D_1 7), (D_1 8), (D_1 9), (D_1 10), (D_1 11), (D_1 12), (D_1 13), (D_1 14), (D_1 15), (D_1 16), (D_1 17), x19, x20, x47, x2, x49] ++ [x50, x3, x52, x53, x54, x54, x56, undef, x19, x59, x20, x19, x2, x63, x64, x3, x66, x67, x68, x69, x70, x71, x72, x73, x74, x75, x76, x77, x77, x54, x80, x80, (D_2 0), (D_2 1), (D_2 2), (D_2 3), (D_2 4), (D_2 5), (D_2 6), (D_2 7), x90, undef, undef, undef]).toArray, []⟩ ∧ At w0 w h_10 ∧ K x90 h_10) H (fun hb_1 H => ?_) (fun hb_1 H => ?_) ?_
              · refine ls_move (x := x77) (by rw [hb_1]; kernel_rfl) (by kernel_rfl) ?_
                refine ls_move (x := x54) (by rw [hb_1]; kernel_rfl) (by kernel_rfl) ?_
                refine ls_fr (b := ⟨([x0, x1, x2, x3, undef, x5, undef, undef, (.bool false), x19, x20, x11, x54, x59, x77, x0, x16, x17, undef, x19, x20, x19, x22, x22, (D 0), (D 1), x26, x11, x0, x29, x30, (D_1 4), (D_1 5), (D_1 6), (D_1 7), (D_1 8), (D_1 9), (D_1 10), (D_1 11), (D_1 12), (D_1 13), (D_1 14), (D_1 15), (D_1 16), (D_1 17), x19, x20, x47, x2, x49] ++ [x50, x3, x52, x53, x54, x54, x56, undef, x19, x59, x20, x19, x2, x63, x64, x3, x66, x67, x68, x69, x70, x71, x72, x73, x74, x75, x76, x77, x77, x54, x80, x80, x77, x54, undef, undef, undef, undef, undef, undef, undef, undef, undef, undef]).toArray, []⟩) (by kernel_rfl) ?_
                refine ls_p (d := some 84) (by kernel_rfl) (by rw [hb_1]; kernel_rfl) (p_sGt (by kernel_rfl) (by kernel_rfl) H) (fun x84 H => ?_)
                refine ls_move (x := x84) (by rw [hb_1]; kernel_rfl) (by kernel_rfl) ?_
                refine ls_orh [(), (), (), ()] (fun K a w => ∃ (D_4 : Nat → Value) (x89 : Value) (h_13 : Heap), a = ⟨([x0, x1, x2, x3, undef, x5, undef, undef, (.bool false), x19, x20, x11, x54, x59, x77, x0, x16, x17, undef, x19, x20, x19, x22, x22, (D 0), (D 1), x26, x11, x0, x29, x30, (D_1 4), (D_1 5), (D_1 6), (D_1 7), (D_1 8), (D_1 9), (D_1 10), (D_1 11), (D_1 12), (D_1 13), (D_1 14), (D_1 15), (D_1 16), (D_1 17), x19, x20, x47, x2, x49] ++ [x50, x3, x52, x53, x54, x54, x56, undef, x19, x59, x20, x19, x2, x63, x64, x3, x66, x67, x68, x69, x70, x71, x72, x73, x74, x75, x76, x77, x77, x54, x80, x80, x77, x54, x84, x84, (D_4 0), (D_4 1), (D_4 2), x89, undef, undef, undef, undef]).toArray, []⟩ ∧ At w0 w h_13 ∧ K x89 h_13) H (fun hb_2 H => ?_) (fun hb_2 H => ?_) ?_
                · refine ls_move (x := x19) (by rw [hb_2]; kernel_rfl) (by kernel_rfl) ?_
                  refine ls_move (x := x59) (by rw [hb_2]; kernel_rfl) (by kernel_rfl) ?_
                  refine ls_d (d := some 88) (by kernel_rfl) (by rw [hb_2]; kernel_rfl) HA_11 (d_call (by kernel_rfl) (by kernel_rfl) H) (fun x88 h_14 w_16 H HA_16 => ?_)
                  refine ls_pick_f (y := x88) (by rw [hb_1]; kernel_rfl) (by rw [hb_2]; kernel_rfl) (by kernel_rfl) ?_
                  refine ls_nil ?_
                  refine then_normal ?_
                  exact ⟨(fun i => ([x19, x59, x88]).getD i undef), x88, h_14, by kernel_rfl, HA_16, H⟩
                · refine ls_skip (d := some 86) (by kernel_rfl) (by rw [hb_2]; kernel_rfl) ?_
                  refine ls_skip (d := some 87) (by kernel_rfl) (by rw [hb_2]; kernel_rfl) ?_
                  refine ls_skip (d := some 88) (by kernel_rfl) (by rw [hb_2]; kernel_rfl) ?_
                  refine ls_pick_t (x := (.bool true)) (by rw [hb_1]; kernel_rfl) (by rw [hb_2]; kernel_rfl) (by kernel_rfl) ?_
                  refine ls_nil ?_
                  refine then_normal ?_
                  exact ⟨(fun i => ([undef, undef, undef]).getD i undef), (.bool true), h_9, by kernel_rfl, HA_11, H⟩
                · rintro _ w_15 ⟨D_4, x89, h_13, rfl, HA_15, H⟩
                  refine ls_pick_t (x := x89) (by kernel_rfl) (by rw [hb_1]; kernel_rfl) (by kernel_rfl) ?_
                  refine ls_nil ?_
                  refine then_normal ?_
                  exact ⟨(fun i => ([x77, x54, x84, x84, (D_4 0), (D_4 1), (D_4 2), x89]).getD i undef), x89, h_13, by kernel_rfl, HA_15, H⟩
              · refine ls_skip (d := some 82) (by kernel_rfl) (by rw [hb_1]; kernel_rfl) ?_
                refine ls_skip (d := some 83) (by kernel_rfl) (by rw [hb_1]; kernel_rfl) ?_
                refine ls_fr (b := ⟨([x0, x1, x2, x3, undef, x5, undef, undef, (.bool false), x19, x20, x11, x54, x59, x77, x0, x16, x17, undef, x19, x20, x19, x22, x22, (D 0), (D 1), x26, x11, x0, x29, x30, (D_1 4), (D_1 5), (D_1 6), (D_1 7), (D_1 8), (D_1 9), (D_1 10), (D_1 11), (D_1 12), (D_1 13), (D_1 14), (D_1 15), (D_1 16), (D_1 17), x19, x20, x47, x2, x49] ++ [x50, x3, x52, x53, x54, x54, x56, undef, x19, x59, x20, x19, x2, x63, x64, x3, x66, x67, x68, x69, x70, x71, x72, x73, x74, x75, x76, x77, x77, x54, x80, x80, undef, undef, undef, undef, undef, undef, undef, undef, undef, undef, undef, undef]).toArray, []⟩) (by kernel_rfl) ?_
                refine ls_skip (d := some 84) (by kernel_rfl) (by rw [hb_1]; kernel_rfl) ?_
                refine ls_skip (d := some 85) (by kernel_rfl) (by rw [hb_1]; kernel_rfl) ?_
                refine ls_skip (d := some 86) (by kernel_rfl) (by kernel_rfl) ?_
                refine ls_skip (d := some 87) (by kernel_rfl) (by kernel_rfl) ?_
                refine ls_skip (d := some 88) (by kernel_rfl) (by kernel_rfl) ?_
                refine ls_skip (d := some 89) (by kernel_rfl) (by rw [hb_1]; kernel_rfl) ?_
                refine ls_fr (b := ⟨([x0, x1, x2, x3, undef, x5, undef, undef, (.bool false), x19, x20, x11, x54, x59, x77, x0, x16, x17, undef, x19, x20, x19, x22, x22, (D 0), (D 1), x26, x11, x0, x29, x30, (D_1 4), (D_1 5), (D_1 6), (D_1 7), (D_1 8), (D_1 9), (D_1 10), (D_1 11), (D_1 12), (D_1 13), (D_1 14), (D_1 15), (D_1 16), (D_1 17), x19, x20, x47, x2, x49] ++ [x50, x3, x52, x53, x54, x54, x56, undef, x19, x59, x20, x19, x2, x63, x64, x3, x66, x67, x68, x69, x70, x71, x72, x73, x74, x75, x76, x77, x77, x54, x80, x80, undef, undef, undef, undef, undef, undef, undef, undef, undef, undef, undef, undef]).toArray, []⟩) (by kernel_rfl) ?_
                refine ls_pick_f (y := (.bool false)) (by kernel_rfl) (by rw [hb_1]; kernel_rfl) (by kernel_rfl) ?_
                refine ls_nil ?_
                refine then_normal ?_
                exact ⟨(fun i => ([undef, undef, undef, undef, undef, undef, undef, undef]).getD i undef), (.bool false), h_9, by kernel_rfl, HA_11, H⟩
              · rintro _ w_12 ⟨D_2, x90, h_10, rfl, HA_12, H⟩
                refine ls_move (x := x90) (by kernel_rfl) (by kernel_rfl) ?_
                refine ls_andh [(), ()] (fun K a w => ∃ (D_3 : Nat → Value) (x93 : Value) (h_11 : Heap), a = ⟨([x0, x1, x2, x3, undef, x5, undef, undef, (.bool false), x19, x20, x11, x54, x59, x77, x0, x16, x17, undef, x19, x20, x19, x22, x22, (D 0), (D 1), x26, x11, x0, x29, x30, (D_1 4), (D_1 5), (D_1 6), (D_1 7), (D_1 8), (D_1 9), (D_1 10), (D_1 11), (D_1 12), (D_1 13), (D_1 14), (D_1 15), (D_1 16), (D_1 17), x19, x20, x47, x2, x49] ++ [x50, x3, x52, x53, x54, x54, x56, undef, x19, x59, x20, x19, x2, x63, x64, x3, x66, x67, x68, x69, x70, x71, x72, x73, x74, x75, x76, x77, x77, x54, x80, x80, (D_2 0), (D_2 1), (D_2 2), (D_2 3), (D_2 4), (D_2 5), (D_2 6), (D_2 7), x90, x90, (D_3 0), x93]).toArray, []⟩ ∧ At w0 w h_11 ∧ K x93 h_11) H (fun hb H => ?_) (fun hb H => ?_) ?_
                · refine ls_d (d := some 92) (by kernel_rfl) (by rw [hb]; kernel_rfl) HA_12 (d_call (by kernel_rfl) (by kernel_rfl) H) (fun x92 h_12 w_14 H HA_14 => ?_)
                  refine ls_pick_t (x := x92) (by kernel_rfl) (by rw [hb]; kernel_rfl) (by kernel_rfl) ?_
                  refine ls_nil ?_
                  refine then_normal ?_
                  exact ⟨(fun i => ([x92]).getD i undef), x92, h_12, by kernel_rfl, HA_14, H⟩
                · refine ls_skip (d := some 92) (by kernel_rfl) (by rw [hb]; kernel_rfl) ?_
                  refine ls_pick_f (y := (.bool false)) (by kernel_rfl) (by rw [hb]; kernel_rfl) (by kernel_rfl) ?_
                  refine ls_nil ?_
                  refine then_normal ?_
                  exact ⟨(fun i => ([undef]).getD i undef), (.bool false), h_10, by kernel_rfl, HA_12, H⟩
                · rintro _ w_13 ⟨D_3, x93, h_11, rfl, HA_13, H⟩
                  refine ls_assign (x := x93) (by kernel_rfl) (by kernel_rfl) ?_
                  refine ls_nil ?_
                  refine then_normal ?_
                  refine fr_eq (b := ⟨([x0, x1, x2, x3, undef, x5, undef, undef, x93, x19, x20, x11, x54, x59, x77, x0, x16, x17, undef, x19, x20, x19, x22, x22, (D 0), (D 1), x26, x11, x0, x29, x30, (D_1 4), (D_1 5), (D_1 6), (D_1 7), (D_1 8), (D_1 9), (D_1 10), (D_1 11), (D_1 12), (D_1 13), (D_1 14), (D_1 15), (D_1 16), (D_1 17), x19, x20, x47, x2, x49] ++ [x50, x3, x52, x53, x54, x54, x56, undef, x19, x59, x20, x19, x2, x63, x64, x3, x66, x67, x68, x69, x70, x71, x72, x73, x74, x75, x76, x77, x77, x54, x80, x80, (D_2 0), (D_2 1), (D_2 2), (D_2 3), (D_2 4), (D_2 5), (D_2 6), (D_2 7), x90, x90, (D_3 0), x93]).toArray, []⟩) (by kernel_rfl) ?_
                  refine wp_ret ?_
                  exact end1 (Try.results5) (by kernel_rfl) (by kernel_rfl) HA_13 H _ (.inr rfl)

end Go.Proofs.Ythhpieidlpjbmaa
