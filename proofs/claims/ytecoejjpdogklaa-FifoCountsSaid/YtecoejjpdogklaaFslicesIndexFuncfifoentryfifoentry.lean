/- The shallow reading of one function, and that the function does it. Written by a program. -/
import Derived.Test.YtecoejjpdogklaaFnC
set_option linter.unusedVariables false
namespace Go.Proofs.Ytecoejjpdogklaa
open Go Go.HW

def slices_IndexFunc_fifo_entry_fifo_entry_l1 (R : Value → Heap → Prop) (x0 x1 x7 : Value) (next : Value → Heap → Prop) (x8 : Value) (h : Heap) : Prop :=
  sLt x8 x7 fun x9 =>
  sIf x9 (sIxS x0 x8 2 fun x14 =>
  sLdN h x14 2 fun x15 =>
  sCallV Try.prog x1 #[x15] h fun x16 h_1 => 
  sIf x16 (R x8 h_1) (sAdd .i64 x8 (.int .i64 1) fun x18 =>
  next x18 h_1)) (R (.int .i64 (-1)) h)
def slices_IndexFunc_fifo_entry_fifo_entry_S (x0 x1 : Value) (h : Heap) (R : Value → Heap → Prop) : Prop :=
  sLen x0 fun x7 =>
  sLoop (S := Value) (fun next s h => slices_IndexFunc_fifo_entry_fifo_entry_l1 R x0 x1 x7 (fun x8' h => next x8' h) s h) (.int .i64 0) h
set_option maxRecDepth 100000 in
theorem slices_IndexFunc_fifo_entry_fifo_entry_runs {x0 x1 : Value} {h : Heap} {R : Value → Heap → Prop} (H : slices_IndexFunc_fifo_entry_fifo_entry_S x0 x1 h R) : slices_IndexFunc_fifo_entry_fifo_entry_c x0 x1 h R := by
  unfold slices_IndexFunc_fifo_entry_fifo_entry_S at H
  refine runs_of (b := ⟨#[x0, x1, undef, undef, undef, undef, undef, undef, undef, undef, undef, undef, undef, undef, undef, undef, undef, undef, undef], []⟩) Try.call71 Try.func71 rfl (by kernel_rfl) (fun w0 HA => ?_)
  refine wp_seq ?_
  refine lwp_list ?_
  refine ls_assign (x := (.int .i64 0)) (by kernel_rfl) (by kernel_rfl) ?_
  refine ls_nil ?_
  refine then_normal ?_
  refine fr_eq (b := ⟨#[x0, x1, undef, undef, (.int .i64 0), undef, undef, undef, undef, undef, undef, undef, undef, undef, undef, undef, undef, undef, undef], []⟩) (by kernel_rfl) ?_
  refine wp_seq ?_
  refine wp_seq ?_
  refine lwp_list ?_
  refine ls_move (x := x0) (by kernel_rfl) (by kernel_rfl) ?_
  refine ls_p (d := some 7) (by kernel_rfl) (by kernel_rfl) (p_len Try.underlying94 (by kernel_rfl) H) (fun x7 H => ?_)
  refine ls_move (x := (.int .i64 0)) (by kernel_rfl) (by kernel_rfl) ?_
  refine ls_nil ?_
  refine then_normal ?_
  refine fr_eq (b := ⟨#[x0, x1, undef, undef, (.int .i64 0), undef, x0, x7, (.int .i64 0), undef, undef, undef, undef, undef, undef, undef, undef, undef, undef], []⟩) (by kernel_rfl) ?_
  refine wp_block ?_
  obtain ⟨I, m, H0, HB⟩ := H
  refine wp_loop (fun a w => ∃ (D : Nat → Value) (x8 : Value) (h : Heap), a = ⟨#[x0, x1, undef, undef, (D 0), (D 1), x0, x7, x8, (D 2), (D 3), (D 4), (D 5), (D 6), (D 7), (D 8), (D 9), (D 10), (D 11)], []⟩ ∧ At w0 w h ∧ I x8 h) (fun a w => m (a.tmps.getD 8 undef) w.heap) ?_ ?_
  · exact ⟨(fun i => ([(.int .i64 0), undef, undef, undef, undef, undef, undef, undef, undef, undef, undef, undef]).getD i undef), (.int .i64 0), h, by kernel_rfl, HA, H0⟩
  · rintro _ w ⟨D, x8, h, rfl, HA, HI⟩
    have H : slices_IndexFunc_fifo_entry_fifo_entry_l1 R x0 x1 x7 (fun x8' h' => I x8' h' ∧ m x8' h' < m x8 h) x8 h := HB x8 h HI
    clear HB H0 HI
    unfold slices_IndexFunc_fifo_entry_fifo_entry_l1 at H
    refine wp_seq ?_
    refine lwp_list ?_
    refine ls_p (d := some 9) (by kernel_rfl) (by kernel_rfl) (p_sLt (by kernel_rfl) (by kernel_rfl) H) (fun x9 H => ?_)
    refine ls_nil ?_
    refine then_normal ?_
    refine fr_eq (b := ⟨#[x0, x1, undef, undef, (D 0), (D 1), x0, x7, x8, x9, (D 3), (D 4), (D 5), (D 6), (D 7), (D 8), (D 9), (D 10), (D 11)], []⟩) (by kernel_rfl) ?_
    refine wp_seq ?_
    refine wp_if rfl H (fun H => ?_) (fun H => ?_)
    · refine wp_skip ?_
      refine then_normal ?_
      refine fr_eq (b := ⟨#[x0, x1, undef, undef, (D 0), (D 1), x0, x7, x8, x9, (D 3), (D 4), (D 5), (D 6), (D 7), (D 8), (D 9), (D 10), (D 11)], []⟩) (by kernel_rfl) ?_
      refine wp_seq ?_
      refine wp_block ?_
      refine wp_seq ?_
      refine lwp_list ?_
      refine ls_move (x := x8) (by kernel_rfl) (by kernel_rfl) ?_
      refine ls_assign (x := x8) (by kernel_rfl) (by kernel_rfl) ?_
      refine ls_nil ?_
      refine then_normal ?_
      refine fr_eq (b := ⟨#[x0, x1, undef, undef, (D 0), x8, x0, x7, x8, x9, x8, (D 4), (D 5), (D 6), (D 7), (D 8), (D 9), (D 10), (D 11)], []⟩) (by kernel_rfl) ?_
      refine wp_seq ?_
      refine lwp_list ?_
      refine ls_move (x := x1) (by kernel_rfl) (by kernel_rfl) ?_
      refine ls_move (x := x0) (by kernel_rfl) (by kernel_rfl) ?_
      refine ls_move (x := x8) (by kernel_rfl) (by kernel_rfl) ?_
      refine ls_p (d := some 14) (by kernel_rfl) (by kernel_rfl) (p_ixs Try.underlying94 Try.sizeOf98 (by kernel_rfl) (by kernel_rfl) H) (fun x14 H => ?_)
      refine ls_y (d := some 15) (by kernel_rfl) (by kernel_rfl) HA (y_ldn Try.isAgg98 Try.sizeOf98 (by kernel_rfl) H) (fun x15 H => ?_)
      refine ls_d (d := some 16) (by kernel_rfl) (by kernel_rfl) HA (d_callx (by kernel_rfl) (by kernel_rfl) H) (fun x16 h_1 w_1 H HA_1 => ?_)
      refine ls_nil ?_
      refine then_normal ?_
      refine fr_eq (b := ⟨#[x0, x1, undef, undef, (D 0), x8, x0, x7, x8, x9, x8, x1, x0, x8, x14, x15, x16, (D 10), (D 11)], []⟩) (by kernel_rfl) ?_
      refine wp_if rfl H (fun H => ?_) (fun H => ?_)
      · refine wp_seq ?_
        refine lwp_list ?_
        refine ls_move (x := x8) (by kernel_rfl) (by kernel_rfl) ?_
        refine ls_assign (x := x8) (by kernel_rfl) (by kernel_rfl) ?_
        refine ls_nil ?_
        refine then_normal ?_
        refine fr_eq (b := ⟨#[x0, x1, undef, undef, x8, x8, x0, x7, x8, x9, x8, x1, x0, x8, x14, x15, x16, x8, (D 11)], []⟩) (by kernel_rfl) ?_
        refine wp_ret ?_
        refine block_ret ?_
        refine then_ret ?_
        refine then_ret ?_
        refine block_ret ?_
        refine then_ret ?_
        exact end1 (Try.results71) (by kernel_rfl) (by kernel_rfl) HA_1 H _ (.inr rfl)
      · refine wp_skip ?_
        refine block_normal ?_
        refine then_normal ?_
        refine fr_eq (b := ⟨#[x0, x1, undef, undef, (D 0), x8, x0, x7, x8, x9, x8, x1, x0, x8, x14, x15, x16, (D 10), (D 11)], []⟩) (by kernel_rfl) ?_
        refine lwp_list ?_
        refine ls_p (d := some 18) (by kernel_rfl) (by kernel_rfl) (p_add (by kernel_rfl) (by kernel_rfl) H) (fun x18 H => ?_)
        refine ls_move (x := x18) (by kernel_rfl) (by kernel_rfl) ?_
        refine ls_nil ?_
        exact ⟨⟨(fun i => ([(D 0), x8, x9, x8, x1, x0, x8, x14, x15, x16, (D 10), x18]).getD i undef), x18, h_1, by kernel_rfl, HA_1, H.1⟩, loop_lt HA_1.heap HA.heap (by kernel_rfl) (by kernel_rfl) H.2⟩
    · refine wp_exit ?_
      refine then_exit ?_
      refine then_exit ?_
      refine block_exit ?_
      refine then_normal ?_
      refine fr_eq (b := ⟨#[x0, x1, undef, undef, (D 0), (D 1), x0, x7, x8, x9, (D 3), (D 4), (D 5), (D 6), (D 7), (D 8), (D 9), (D 10), (D 11)], []⟩) (by kernel_rfl) ?_
      refine wp_seq ?_
      refine lwp_list ?_
      refine ls_assign (x := (.int .i64 (-1))) (by kernel_rfl) (by kernel_rfl) ?_
      refine ls_nil ?_
      refine then_normal ?_
      refine fr_eq (b := ⟨#[x0, x1, undef, undef, (.int .i64 (-1)), (D 1), x0, x7, x8, x9, (D 3), (D 4), (D 5), (D 6), (D 7), (D 8), (D 9), (D 10), (D 11)], []⟩) (by kernel_rfl) ?_
      refine wp_ret ?_
      exact end1 (Try.results71) (by kernel_rfl) (by kernel_rfl) HA H _ (.inr rfl)

end Go.Proofs.Ytecoejjpdogklaa
