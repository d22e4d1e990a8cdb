/- The shallow reading of one function, and that the function does it. Written by a program. -/
import Derived.Test.YthhpieidlpjbmaaFnC
set_option linter.unusedVariables false
namespace Go.Proofs.Ythhpieidlpjbmaa
open Go Go.HW

def slices_Equal_api_Cell_api_Cell_l1 (R : Value → Heap → Prop) (x0 x1 x12 : Value) (next : Value → Heap → Prop) (x13 : Value) (h : Heap) : Prop :=
  sLt x13 x12 fun x14 =>
  sIf x14 (sIxS x0 x13 4 fun x18 =>
  sLdN h x18 4 fun x19 =>
  sIxS x1 x13 4 fun x22 =>
  sLdN h x22 4 fun x23 =>
  sNeqAgg x19 x23 [some .i32, some .i64, some .i64, some .i64] fun x24 =>
  sIf x24 (R (.bool false) h) (sAdd .i64 x13 (.int .i64 1) fun x25 =>
  next x25 h)) (R (.bool true) h)
def slices_Equal_api_Cell_api_Cell_S (x0 x1 : Value) (h : Heap) (R : Value → Heap → Prop) : Prop :=
  sLen x0 fun x7 =>
  sLen x1 fun x9 =>
  sNe x7 x9 fun x10 =>
  sIf x10 (R (.bool false) h) (sLen x0 fun x12 =>
  sLoop (S := Value) (fun nxt s h => slices_Equal_api_Cell_api_Cell_l1 R x0 x1 x12 (fun x13' h => nxt x13' h) s h) (.int .i64 0) h)
set_option maxRecDepth 100000 in
theorem slices_Equal_api_Cell_api_Cell_runs {x0 x1 : Value} {h : Heap} {R : Value → Heap → Prop} (H : slices_Equal_api_Cell_api_Cell_S x0 x1 h R) : slices_Equal_api_Cell_api_Cell_c x0 x1 h R := by
  unfold slices_Equal_api_Cell_api_Cell_S at H
  refine runs_of (b := ⟨#[x0, x1, undef, undef, undef, undef, undef, undef, undef, undef, undef, undef, undef, undef, undef, undef, undef, undef, undef, undef, undef, undef, undef, undef, undef, undef], []⟩) Try.call48 Try.func48 rfl (by kernel_rfl) (fun w0 HA => ?_)
  refine wp_seq ?_
  refine lwp_list ?_
  refine ls_assign (x := (.bool false)) (by kernel_rfl) (by kernel_rfl) ?_
  refine ls_nil ?_
  refine then_normal ?_
  refine fr_eq (b := ⟨#[x0, x1, undef, undef, (.bool false), undef, undef, undef, undef, undef, undef, undef, undef, undef, undef, undef, undef, undef, undef, undef, undef, undef, undef, undef, undef, undef], []⟩) (by kernel_rfl) ?_
  refine wp_seq ?_
  refine wp_seq ?_
  refine lwp_list ?_
  refine ls_move (x := x0) (by kernel_rfl) (by kernel_rfl) ?_
  refine ls_p (d := some 7) (by kernel_rfl) (by kernel_rfl) (p_len Try.underlying35 (by kernel_rfl) H) (fun x7 H => ?_)
  refine ls_move (x := x1) (by kernel_rfl) (by kernel_rfl) ?_
  refine ls_p (d := some 9) (by kernel_rfl) (by kernel_rfl) (p_len Try.underlying35 (by kernel_rfl) H) (fun x9 H => ?_)
  refine ls_p (d := some 10) (by kernel_rfl) (by kernel_rfl) (p_sNe (by kernel_rfl) (by kernel_rfl) H) (fun x10 H => ?_)
  refine ls_nil ?_
  refine then_normal ?_
  refine fr_eq (b := ⟨#[x0, x1, undef, undef, (.bool false), undef, x0, x7, x1, x9, x10, undef, undef, undef, undef, undef, undef, undef, undef, undef, undef, undef, undef, undef, undef, undef], []⟩) (by kernel_rfl) ?_
  refine wp_if rfl H (fun H => ?_) (fun H => ?_)
  · refine wp_seq ?_
    refine lwp_list ?_
    refine ls_assign (x := (.bool false)) (by kernel_rfl) (by kernel_rfl) ?_
    refine ls_nil ?_
    refine then_normal ?_
    refine fr_eq (b := ⟨#[x0, x1, undef, undef, (.bool false), undef, x0, x7, x1, x9, x10, undef, undef, undef, undef, undef, undef, undef, undef, undef, undef, undef, undef, undef, undef, undef], []⟩) (by kernel_rfl) ?_
    refine wp_ret ?_
    refine then_ret ?_
    exact end1 (Try.results48) (by kernel_rfl) (by kernel_rfl) HA H _ (.inr rfl)
  · refine wp_skip ?_
    refine then_normal ?_
    refine fr_eq (b := ⟨#[x0, x1, undef, undef, (.bool false), undef, x0, x7, x1, x9, x10, undef, undef, undef, undef, undef, undef, undef, undef, undef, undef, undef, undef, undef, undef, undef], []⟩) (by kernel_rfl) ?_
    refine wp_seq ?_
    refine wp_seq ?_
    refine lwp_list ?_
    refine ls_move (x := x0) (by kernel_rfl) (by kernel_rfl) ?_
    refine ls_p (d := some 12) (by kernel_rfl) (by kernel_rfl) (p_len Try.underlying35 (by kernel_rfl) H) (fun x12 H => ?_)
    refine ls_move (x := (.int .i64 0)) (by kernel_rfl) (by kernel_rfl) ?_
    refine ls_nil ?_
    refine then_normal ?_
    refine fr_eq (b := ⟨#[x0, x1, undef, undef, (.bool false), undef, x0, x7, x1, x9, x10, x0, x12, (.int .i64 0), undef, undef, undef, undef, undef, undef, undef, undef, undef, undef, undef, undef], []⟩) (by kernel_rfl) ?_
    refine wp_block ?_
    obtain ⟨I, m, H0, HB⟩ := H
    refine wp_loop (fun a w => ∃ (D : Nat → Value) (x13 : Value) (h : Heap), a = ⟨#[x0, x1, undef, undef, (D 0), (D 1), x0, x7, x1, x9, x10, x0, x12, x13, (D 2), (D 3), (D 4), (D 5), (D 6), (D 7), (D 8), (D 9), (D 10), (D 11), (D 12), (D 13)], []⟩ ∧ At w0 w h ∧ I x13 h) (fun a w => m (a.tmps.getD 13 undef) w.heap) ?_ ?_
    · exact ⟨(fun i => ([(.bool false), undef, undef, undef, undef, undef, undef, undef, undef, undef, undef, undef, undef, undef]).getD i undef), (.int .i64 0), h, by kernel_rfl, HA, H0⟩
    · rintro _ w ⟨D, x13, h, rfl, HA, HI⟩
      have H : slices_Equal_api_Cell_api_Cell_l1 R x0 x1 x12 (fun x13' h' => I x13' h' ∧ m x13' h' < m x13 h) x13 h := HB x13 h HI
      clear HB H0 HI
      unfold slices_Equal_api_Cell_api_Cell_l1 at H
      refine wp_seq ?_
      refine lwp_list ?_
      refine ls_p (d := some 14) (by kernel_rfl) (by kernel_rfl) (p_sLt (by kernel_rfl) (by kernel_rfl) H) (fun x14 H => ?_)
      refine ls_nil ?_
      refine then_normal ?_
      refine fr_eq (b := ⟨#[x0, x1, undef, undef, (D 0), (D 1), x0, x7, x1, x9, x10, x0, x12, x13, x14, (D 3), (D 4), (D 5), (D 6), (D 7), (D 8), (D 9), (D 10), (D 11), (D 12), (D 13)], []⟩) (by kernel_rfl) ?_
      refine wp_seq ?_
      refine wp_if rfl H (fun H => ?_) (fun H => ?_)
      · refine wp_skip ?_
        refine then_normal ?_
        refine fr_eq (b := ⟨#[x0, x1, undef, undef, (D 0), (D 1), x0, x7, x1, x9, x10, x0, x12, x13, x14, (D 3), (D 4), (D 5), (D 6), (D 7), (D 8), (D 9), (D 10), (D 11), (D 12), (D 13)], []⟩) (by kernel_rfl) ?_
        refine wp_seq ?_
        refine wp_block ?_
        refine wp_seq ?_
        refine lwp_list ?_
        refine ls_move (x := x13) (by kernel_rfl) (by kernel_rfl) ?_
        refine ls_assign (x := x13) (by kernel_rfl) (by kernel_rfl) ?_
        refine ls_nil ?_
        refine then_normal ?_
        refine fr_eq (b := ⟨#[x0, x1, undef, undef, (D 0), x13, x0, x7, x1, x9, x10, x0, x12, x13, x14, x13, (D 4), (D 5), (D 6), (D 7), (D 8), (D 9), (D 10), (D 11), (D 12), (D 13)], []⟩) (by kernel_rfl) ?_
        refine wp_seq ?_
        refine lwp_qt (by kernel_rfl) (by kernel_rfl) HA ?_
        refine lq_move (x := x0) (by kernel_rfl) (by kernel_rfl) ?_
        refine lq_move (x := x13) (by kernel_rfl) (by kernel_rfl) ?_
        refine lq_p (d := some 18) (by kernel_rfl) (by kernel_rfl) (p_ixs Try.underlying35 Try.sizeOf27 (by kernel_rfl) (by kernel_rfl) H) (fun x18 H => ?_)
        refine lq_y (d := some 19) (by kernel_rfl) (by kernel_rfl) HA (y_ldn Try.isAgg27 Try.sizeOf27 (by kernel_rfl) H) (fun x19 H => ?_)
        refine lq_move (x := x1) (by kernel_rfl) (by kernel_rfl) ?_
        refine lq_move (x := x13) (by kernel_rfl) (by kernel_rfl) ?_
        refine lq_fr (b := ⟨#[x0, x1, undef, undef, (D 0), x13, x0, x7, x1, x9, x10, x0, x12, x13, x14, x13, x0, x13, x18, x19, x1, x13, (D 10), (D 11), (D 12), (D 13)], []⟩) (by kernel_rfl) ?_
        refine lq_p (d := some 22) (by kernel_rfl) (by kernel_rfl) (p_ixs Try.underlying35 Try.sizeOf27 (by kernel_rfl) (by kernel_rfl) H) (fun x22 H => ?_)
        refine lq_y (d := some 23) (by kernel_rfl) (by kernel_rfl) HA (y_ldn Try.isAgg27 Try.sizeOf27 (by kernel_rfl) H) (fun x23 H => ?_)
        refine lq_p (d := some 24) (by kernel_rfl) (by kernel_rfl) (p_neqAgg (eqT_27) (by kernel_rfl) (by kernel_rfl) H) (fun x24 H => ?_)
        refine lq_nil ?_
        intro w_1 HA_1
        refine then_normal ?_
        refine fr_eq (b := ⟨#[x0, x1, undef, undef, (D 0), x13, x0, x7, x1, x9, x10, x0, x12, x13, x14, x13, x0, x13, x18, x19, x1, x13, x22, x23, x24, (D 13)], []⟩) (by kernel_rfl) ?_
        refine wp_if rfl H (fun H => ?_) (fun H => ?_)
        · refine wp_seq ?_
          refine lwp_list ?_
          refine ls_assign (x := (.bool false)) (by kernel_rfl) (by kernel_rfl) ?_
          refine ls_nil ?_
          refine then_normal ?_
          refine fr_eq (b := ⟨#[x0, x1, undef, undef, (.bool false), x13, x0, x7, x1, x9, x10, x0, x12, x13, x14, x13, x0, x13, x18, x19, x1, x13, x22, x23, x24, (D 13)], []⟩) (by kernel_rfl) ?_
          refine wp_ret ?_
          refine block_ret ?_
          refine then_ret ?_
          refine then_ret ?_
          refine block_ret ?_
          refine then_ret ?_
          exact end1 (Try.results48) (by kernel_rfl) (by kernel_rfl) HA_1 H _ (.inr rfl)
        · refine wp_skip ?_
          refine block_normal ?_
          refine then_normal ?_
          refine fr_eq (b := ⟨#[x0, x1, undef, undef, (D 0), x13, x0, x7, x1, x9, x10, x0, x12, x13, x14, x13, x0, x13, x18, x19, x1, x13, x22, x23, x24, (D 13)], []⟩) (by kernel_rfl) ?_
          refine lwp_list ?_
          refine ls_p (d := some 25) (by kernel_rfl) (by kernel_rfl) (p_add (by kernel_rfl) (by kernel_rfl) H) (fun x25 H => ?_)
          refine ls_move (x := x25) (by kernel_rfl) (by kernel_rfl) ?_
          refine ls_nil ?_
          exact ⟨⟨(fun i => ([(D 0), x13, x14, x13, x0, x13, x18, x19, x1, x13, x22, x23, x24, x25]).getD i undef), x25, h, by kernel_rfl, HA_1, H.1⟩, loop_lt HA_1.heap HA.heap (by kernel_rfl) (by kernel_rfl) H.2⟩
      · refine wp_exit ?_
        refine then_exit ?_
        refine then_exit ?_
        refine block_exit ?_
        refine then_normal ?_
        refine fr_eq (b := ⟨#[x0, x1, undef, undef, (D 0), (D 1), x0, x7, x1, x9, x10, x0, x12, x13, x14, (D 3), (D 4), (D 5), (D 6), (D 7), (D 8), (D 9), (D 10), (D 11), (D 12), (D 13)], []⟩) (by kernel_rfl) ?_
        refine wp_seq ?_
        refine lwp_list ?_
        refine ls_assign (x := (.bool true)) (by kernel_rfl) (by kernel_rfl) ?_
        refine ls_nil ?_
        refine then_normal ?_
        refine fr_eq (b := ⟨#[x0, x1, undef, undef, (.bool true), (D 1), x0, x7, x1, x9, x10, x0, x12, x13, x14, (D 3), (D 4), (D 5), (D 6), (D 7), (D 8), (D 9), (D 10), (D 11), (D 12), (D 13)], []⟩) (by kernel_rfl) ?_
        refine wp_ret ?_
        exact end1 (Try.results48) (by kernel_rfl) (by kernel_rfl) HA H _ (.inr rfl)

end Go.Proofs.Ythhpieidlpjbmaa
