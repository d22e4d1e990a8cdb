/- The shallow reading of one function, and that the function does it. Written by a program. -/
import Derived.Test.YtecoejjpdogklaaFnC
set_option linter.unusedVariables false
namespace Go.Proofs.Ytecoejjpdogklaa
open Go Go.HW

def betonylaw20_step_j2 (next : Value → Heap → Prop) (x4 : Value) (h_1 : Heap) : Prop :=
  sAdd .i64 x4 (.int .i64 1) fun x10 =>
  next x10 h_1
def betonylaw20_step_l1 (R : Value → Heap → Prop) (x0 x1 : Value) (next : Value → Heap → Prop) (x4 : Value) (h : Heap) : Prop :=
  sLen x1 fun x7 =>
  sLt x4 x7 fun x8 =>
  sIf x8 (sIxS x1 x4 1 fun x13 =>
  sLd h x13 fun x14 =>
  sGt x14 (.int .i64 0) fun x15 =>
  sIf x15 (sIxS x1 x4 1 fun x19 =>
  sLd h x19 fun x20 =>
  patience_Wait_Come_c x0 x20 h fun x21 h_2 => 
  betonylaw20_step_j2 next x4 h_2) (patience_Wait_Tick_c x0 h fun x23 h_3 => 
  betonylaw20_step_j2 next x4 h_3)) (R unit h)
def betonylaw20_step_S (x0 x1 : Value) (h : Heap) (R : Value → Heap → Prop) : Prop :=
  sLoop (S := Value) (fun next s h => betonylaw20_step_l1 R x0 x1 (fun x4' h => next x4' h) s h) (.int .i64 0) h
set_option maxRecDepth 100000 in
theorem betonylaw20_step_runs {x0 x1 : Value} {h : Heap} {R : Value → Heap → Prop} (H : betonylaw20_step_S x0 x1 h R) : betonylaw20_step_c x0 x1 h R := by
  unfold betonylaw20_step_S at H
  refine runs_of (b := ⟨#[x0, x1, undef, undef, undef, undef, undef, undef, undef, undef, undef, undef, undef, undef, undef, undef, undef, undef, undef, undef, undef, undef, undef, undef], []⟩) Try.call21 Try.func21 rfl (by kernel_rfl) (fun w0 HA => ?_)
  refine wp_seq ?_
  refine lwp_list ?_
  refine ls_assign (x := (.int .i64 0)) (by kernel_rfl) (by kernel_rfl) ?_
  refine ls_nil ?_
  refine then_normal ?_
  refine fr_eq (b := ⟨#[x0, x1, undef, undef, (.int .i64 0), undef, undef, undef, undef, undef, undef, undef, undef, undef, undef, undef, undef, undef, undef, undef, undef, undef, undef, undef], []⟩) (by kernel_rfl) ?_
  refine wp_block ?_
  obtain ⟨I, m, H0, HB⟩ := H
  refine wp_loop (fun a w => ∃ (D : Nat → Value) (x4 : Value) (h : Heap), a = ⟨#[x0, x1, undef, undef, x4, (D 0), (D 1), (D 2), (D 3), (D 4), (D 5), (D 6), (D 7), (D 8), (D 9), (D 10), (D 11), (D 12), (D 13), (D 14), (D 15), (D 16), (D 17), (D 18)], []⟩ ∧ At w0 w h ∧ I x4 h) (fun a w => m (a.tmps.getD 4 undef) w.heap) ?_ ?_
  · exact ⟨(fun i => ([undef, undef, undef, undef, undef, undef, undef, undef, undef, undef, undef, undef, undef, undef, undef, undef, undef, undef, undef]).getD i undef), (.int .i64 0), h, by kernel_rfl, HA, H0⟩
  · rintro _ w ⟨D, x4, h, rfl, HA, HI⟩
    have H : betonylaw20_step_l1 R x0 x1 (fun x4' h' => I x4' h' ∧ m x4' h' < m x4 h) x4 h := HB x4 h HI
    clear HB H0 HI
    unfold betonylaw20_step_l1 at H
    refine wp_seq ?_
    refine wp_seq ?_
    refine lwp_list ?_
    refine ls_move (x := x4) (by kernel_rfl) (by kernel_rfl) ?_
    refine ls_move (x := x1) (by kernel_rfl) (by kernel_rfl) ?_
    refine ls_p (d := some 7) (by kernel_rfl) (by kernel_rfl) (p_len Try.underlying22 (by kernel_rfl) H) (fun x7 H => ?_)
    refine ls_p (d := some 8) (by kernel_rfl) (by kernel_rfl) (p_sLt (by kernel_rfl) (by kernel_rfl) H) (fun x8 H => ?_)
    refine ls_nil ?_
    refine then_normal ?_
    refine fr_eq (b := ⟨#[x0, x1, undef, undef, x4, x4, x1, x7, x8, (D 4), (D 5), (D 6), (D 7), (D 8), (D 9), (D 10), (D 11), (D 12), (D 13), (D 14), (D 15), (D 16), (D 17), (D 18)], []⟩) (by kernel_rfl) ?_
    refine wp_if rfl H (fun H => ?_) (fun H => ?_)
    · refine wp_skip ?_
      refine then_normal ?_
      refine fr_eq (b := ⟨#[x0, x1, undef, undef, x4, x4, x1, x7, x8, (D 4), (D 5), (D 6), (D 7), (D 8), (D 9), (D 10), (D 11), (D 12), (D 13), (D 14), (D 15), (D 16), (D 17), (D 18)], []⟩) (by kernel_rfl) ?_
      refine wp_seq ?_
      refine wp_join (fun a w => ∃ (D_1 : Nat → Value) (h_1 : Heap), a = ⟨#[x0, x1, undef, undef, x4, x4, x1, x7, x8, (D 4), (D 5), (D_1 0), (D_1 1), (D_1 2), (D_1 3), (D_1 4), (D_1 5), (D_1 6), (D_1 7), (D_1 8), (D_1 9), (D_1 10), (D_1 11), (D_1 12)], []⟩ ∧ At w0 w h_1 ∧ betonylaw20_step_j2 (fun x4' h' => I x4' h' ∧ m x4' h' < m x4 h) x4 h_1) ?_ ?_
      · refine wp_block ?_
        refine wp_seq ?_
        refine lwp_list ?_
        refine ls_move (x := x1) (by kernel_rfl) (by kernel_rfl) ?_
        refine ls_move (x := x4) (by kernel_rfl) (by kernel_rfl) ?_
        refine ls_p (d := some 13) (by kernel_rfl) (by kernel_rfl) (p_ixs Try.underlying22 Try.sizeOf3 (by kernel_rfl) (by kernel_rfl) H) (fun x13 H => ?_)
        refine ls_y (d := some 14) (by kernel_rfl) (by kernel_rfl) HA (y_ld Try.isAgg3 (by kernel_rfl) H) (fun x14 H => ?_)
        refine ls_p (d := some 15) (by kernel_rfl) (by kernel_rfl) (p_sGt (by kernel_rfl) (by kernel_rfl) H) (fun x15 H => ?_)
        refine ls_nil ?_
        refine then_normal ?_
        refine fr_eq (b := ⟨#[x0, x1, undef, undef, x4, x4, x1, x7, x8, (D 4), (D 5), x1, x4, x13, x14, x15, (D 11), (D 12), (D 13), (D 14), (D 15), (D 16), (D 17), (D 18)], []⟩) (by kernel_rfl) ?_
        refine wp_if rfl H (fun H => ?_) (fun H => ?_)
        · refine lwp_list ?_
          refine ls_move (x := x0) (by kernel_rfl) (by kernel_rfl) ?_
          refine ls_move (x := x1) (by kernel_rfl) (by kernel_rfl) ?_
          refine ls_move (x := x4) (by kernel_rfl) (by kernel_rfl) ?_
          refine ls_p (d := some 19) (by kernel_rfl) (by kernel_rfl) (p_ixs Try.underlying22 Try.sizeOf3 (by kernel_rfl) (by kernel_rfl) H) (fun x19 H => ?_)
          refine ls_y (d := some 20) (by kernel_rfl) (by kernel_rfl) HA (y_ld Try.isAgg3 (by kernel_rfl) H) (fun x20 H => ?_)
          refine ls_d (d := some 21) (by kernel_rfl) (by kernel_rfl) HA (d_call (by kernel_rfl) (by kernel_rfl) H) (fun x21 h_2 w_2 H HA_2 => ?_)
          refine ls_nil ?_
          refine block_normal ?_
          exact ⟨(fun i => ([x1, x4, x13, x14, x15, x0, x1, x4, x19, x20, x21, (D 17), (D 18)]).getD i undef), h_2, by kernel_rfl, HA_2, H⟩
        · refine lwp_list ?_
          refine ls_move (x := x0) (by kernel_rfl) (by kernel_rfl) ?_
          refine ls_d (d := some 23) (by kernel_rfl) (by kernel_rfl) HA (d_call (by kernel_rfl) (by kernel_rfl) H) (fun x23 h_3 w_3 H HA_3 => ?_)
          refine ls_nil ?_
          refine block_normal ?_
          exact ⟨(fun i => ([x1, x4, x13, x14, x15, (D 11), (D 12), (D 13), (D 14), (D 15), (D 16), x0, x23]).getD i undef), h_3, by kernel_rfl, HA_3, H⟩
      · rintro _ w_1 ⟨D_1, h_1, rfl, HA_1, H⟩
        unfold betonylaw20_step_j2 at H
        refine then_normal ?_
        refine fr_eq (b := ⟨#[x0, x1, undef, undef, x4, x4, x1, x7, x8, (D 4), (D 5), (D_1 0), (D_1 1), (D_1 2), (D_1 3), (D_1 4), (D_1 5), (D_1 6), (D_1 7), (D_1 8), (D_1 9), (D_1 10), (D_1 11), (D_1 12)], []⟩) (by kernel_rfl) ?_
        refine lwp_list ?_
        refine ls_move (x := x4) (by kernel_rfl) (by kernel_rfl) ?_
        refine ls_p (d := some 10) (by kernel_rfl) (by kernel_rfl) (p_add (by kernel_rfl) (by kernel_rfl) H) (fun x10 H => ?_)
        refine ls_assign (x := x10) (by kernel_rfl) (by kernel_rfl) ?_
        refine ls_nil ?_
        exact ⟨⟨(fun i => ([x4, x1, x7, x8, x4, x10, (D_1 0), (D_1 1), (D_1 2), (D_1 3), (D_1 4), (D_1 5), (D_1 6), (D_1 7), (D_1 8), (D_1 9), (D_1 10), (D_1 11), (D_1 12)]).getD i undef), x10, h_1, by kernel_rfl, HA_1, H.1⟩, loop_lt HA_1.heap HA.heap (by kernel_rfl) (by kernel_rfl) H.2⟩
    · refine wp_exit ?_
      refine then_exit ?_
      refine then_exit ?_
      refine block_exit ?_
      exact end0 (Try.results21) (by kernel_rfl) HA H _ (.inl rfl)

end Go.Proofs.Ytecoejjpdogklaa
