/- The shallow reading of one function, and that the function does it. Written by a program. -/
import Derived.Test.YtjlpgakoedigoaaDoorFnC
set_option linter.unusedVariables false
namespace Go.Proofs.YtjlpgakoedigoaaDoor
open Go Go.HW

def betonyref06_Same_l1 (R : Value → Heap → Prop) (x0 x1 : Value) (next : Value → Heap → Prop) (x5 : Value) (h : Heap) : Prop :=
  sLen x0 fun x13 =>
  sLt x5 x13 fun x14 =>
  sIf x14 (sIxS x0 x5 4 fun x19 =>
  sLdN h x19 4 fun x20 =>
  sIxS x1 x5 4 fun x23 =>
  sLdN h x23 4 fun x24 =>
  sNeqAgg x20 x24 [some .i32, some .i64, some .i64, some .i64] fun x25 =>
  sIf x25 (R (.bool false) h) (sAdd .i64 x5 (.int .i64 1) fun x16 =>
  next x16 h)) (R (.bool true) h)
def betonyref06_Same_S (x0 x1 : Value) (h : Heap) (R : Value → Heap → Prop) : Prop :=
  sLen x0 fun x7 =>
  sLen x1 fun x9 =>
  sNe x7 x9 fun x10 =>
  sIf x10 (R (.bool false) h) (sLoop (S := Value) (fun nxt s h => betonyref06_Same_l1 R x0 x1 (fun x5' h => nxt x5' h) s h) (.int .i64 0) h)
set_option maxRecDepth 100000 in
theorem betonyref06_Same_runs {x0 x1 : Value} {h : Heap} {R : Value → Heap → Prop} (H : betonyref06_Same_S x0 x1 h R) : betonyref06_Same_c x0 x1 h R := by
  unfold betonyref06_Same_S at H
  refine runs_of (b := ⟨#[x0, x1, undef, undef, undef, undef, undef, undef, undef, undef, undef, undef, undef, undef, undef, undef, undef, undef, undef, undef, undef, undef, undef, undef, undef, undef], []⟩) Tryd.call15 Tryd.func15 rfl (by kernel_rfl) (fun w0 HA => ?_)
  refine wp_seq ?_
  refine lwp_list ?_
  refine ls_assign (x := (.bool false)) (by kernel_rfl) (by kernel_rfl) ?_
  refine ls_nil ?_
  refine then_normal ?_
  refine fr_eq (b := ⟨#[x0, x1, undef, undef, (.bool false), undef, undef, undef, undef, undef, undef, undef, undef, undef, undef, undef, undef, undef, undef, undef, undef, undef, undef, undef, undef, undef], []⟩) (by kernel_rfl) ?_
  refine wp_seq ?_
  refine wp_seq ?_
  refine lwp_list ?_
  refine ls_move (x := x0) (by kernel_rfl) (by kernel_rfl) ?_
  refine ls_p (d := some 7) (by kernel_rfl) (by kernel_rfl) (p_len Tryd.underlying22 (by kernel_rfl) H) (fun x7 H => ?_)
  refine ls_move (x := x1) (by kernel_rfl) (by kernel_rfl) ?_
  refine ls_p (d := some 9) (by kernel_rfl) (by kernel_rfl) (p_len Tryd.underlying22 (by kernel_rfl) H) (fun x9 H => ?_)
  refine ls_p (d := some 10) (by kernel_rfl) (by kernel_rfl) (p_sNe (by kernel_rfl) (by kernel_rfl) H) (fun x10 H => ?_)
  refine ls_nil ?_
  refine then_normal ?_
  refine fr_eq (b := ⟨#[x0, x1, undef, undef, (.bool false), undef, x0, x7, x1, x9, x10, undef, undef, undef, undef, undef, undef, undef, undef, undef, undef, undef, undef, undef, undef, undef], []⟩) (by kernel_rfl) ?_
  refine wp_if rfl H (fun H => ?_) (fun H => ?_)
  · refine wp_seq ?_
    refine lwp_list ?_
    refine ls_assign (x := (.bool false)) (by kernel_rfl) (by kernel_rfl) ?_
    refine ls_nil ?_
    refine then_normal ?_
    refine fr_eq (b := ⟨#[x0, x1, undef, undef, (.bool false), undef, x0, x7, x1, x9, x10, undef, undef, undef, undef, undef, undef, undef, undef, undef, undef, undef, undef, undef, undef, undef], []⟩) (by kernel_rfl) ?_
    refine wp_ret ?_
    refine then_ret ?_
    exact end1 (Tryd.results15) (by kernel_rfl) (by kernel_rfl) HA H _ (.inr rfl)
  · refine wp_skip ?_
    refine then_normal ?_
    refine fr_eq (b := ⟨#[x0, x1, undef, undef, (.bool false), undef, x0, x7, x1, x9, x10, undef, undef, undef, undef, undef, undef, undef, undef, undef, undef, undef, undef, undef, undef, undef], []⟩) (by kernel_rfl) ?_
    refine wp_seq ?_
    refine wp_seq ?_
    refine lwp_list ?_
    refine ls_assign (x := (.int .i64 0)) (by kernel_rfl) (by kernel_rfl) ?_
    refine ls_nil ?_
    refine then_normal ?_
    refine fr_eq (b := ⟨#[x0, x1, undef, undef, (.bool false), (.int .i64 0), x0, x7, x1, x9, x10, undef, undef, undef, undef, undef, undef, undef, undef, undef, undef, undef, undef, undef, undef, undef], []⟩) (by kernel_rfl) ?_
    refine wp_block ?_
    obtain ⟨I, m, H0, HB⟩ := H
    refine wp_loop (fun a w => ∃ (D : Nat → Value) (x5 : Value) (h : Heap), a = ⟨#[x0, x1, undef, undef, (D 0), x5, x0, x7, x1, x9, x10, (D 1), (D 2), (D 3), (D 4), (D 5), (D 6), (D 7), (D 8), (D 9), (D 10), (D 11), (D 12), (D 13), (D 14), (D 15)], []⟩ ∧ At w0 w h ∧ I x5 h) (fun a w => m (a.tmps.getD 5 undef) w.heap) ?_ ?_
    · exact ⟨(fun i => ([(.bool false), undef, undef, undef, undef, undef, undef, undef, undef, undef, undef, undef, undef, undef, undef, undef]).getD i undef), (.int .i64 0), h, by kernel_rfl, HA, H0⟩
    · rintro _ w ⟨D, x5, h, rfl, HA, HI⟩
      have H : betonyref06_Same_l1 R x0 x1 (fun x5' h' => I x5' h' ∧ m x5' h' < m x5 h) x5 h := HB x5 h HI
      clear HB H0 HI
      unfold betonyref06_Same_l1 at H
      refine wp_seq ?_
      refine wp_seq ?_
      refine lwp_list ?_
      refine ls_move (x := x5) (by kernel_rfl) (by kernel_rfl) ?_
      refine ls_move (x := x0) (by kernel_rfl) (by kernel_rfl) ?_
      refine ls_p (d := some 13) (by kernel_rfl) (by kernel_rfl) (p_len Tryd.underlying22 (by kernel_rfl) H) (fun x13 H => ?_)
      refine ls_p (d := some 14) (by kernel_rfl) (by kernel_rfl) (p_sLt (by kernel_rfl) (by kernel_rfl) H) (fun x14 H => ?_)
      refine ls_nil ?_
      refine then_normal ?_
      refine fr_eq (b := ⟨#[x0, x1, undef, undef, (D 0), x5, x0, x7, x1, x9, x10, x5, x0, x13, x14, (D 5), (D 6), (D 7), (D 8), (D 9), (D 10), (D 11), (D 12), (D 13), (D 14), (D 15)], []⟩) (by kernel_rfl) ?_
      refine wp_if rfl H (fun H => ?_) (fun H => ?_)
      · refine wp_skip ?_
        refine then_normal ?_
        refine fr_eq (b := ⟨#[x0, x1, undef, undef, (D 0), x5, x0, x7, x1, x9, x10, x5, x0, x13, x14, (D 5), (D 6), (D 7), (D 8), (D 9), (D 10), (D 11), (D 12), (D 13), (D 14), (D 15)], []⟩) (by kernel_rfl) ?_
        refine wp_seq ?_
        refine wp_block ?_
        refine wp_seq ?_
        refine lwp_qt (by kernel_rfl) (by kernel_rfl) HA ?_
        refine lq_move (x := x0) (by kernel_rfl) (by kernel_rfl) ?_
        refine lq_move (x := x5) (by kernel_rfl) (by kernel_rfl) ?_
        refine lq_p (d := some 19) (by kernel_rfl) (by kernel_rfl) (p_ixs Tryd.underlying22 Tryd.sizeOf32 (by kernel_rfl) (by kernel_rfl) H) (fun x19 H => ?_)
        refine lq_y (d := some 20) (by kernel_rfl) (by kernel_rfl) HA (y_ldn Tryd.isAgg32 Tryd.sizeOf32 (by kernel_rfl) H) (fun x20 H => ?_)
        refine lq_move (x := x1) (by kernel_rfl) (by kernel_rfl) ?_
        refine lq_move (x := x5) (by kernel_rfl) (by kernel_rfl) ?_
        refine lq_fr (b := ⟨#[x0, x1, undef, undef, (D 0), x5, x0, x7, x1, x9, x10, x5, x0, x13, x14, (D 5), (D 6), x0, x5, x19, x20, x1, x5, (D 13), (D 14), (D 15)], []⟩) (by kernel_rfl) ?_
        refine lq_p (d := some 23) (by kernel_rfl) (by kernel_rfl) (p_ixs Tryd.underlying22 Tryd.sizeOf32 (by kernel_rfl) (by kernel_rfl) H) (fun x23 H => ?_)
        refine lq_y (d := some 24) (by kernel_rfl) (by kernel_rfl) HA (y_ldn Tryd.isAgg32 Tryd.sizeOf32 (by kernel_rfl) H) (fun x24 H => ?_)
        refine lq_p (d := some 25) (by kernel_rfl) (by kernel_rfl) (p_neqAgg (eqT_32) (by kernel_rfl) (by kernel_rfl) H) (fun x25 H => ?_)
        refine lq_nil ?_
        intro w_1 HA_1
        refine then_normal ?_
        refine fr_eq (b := ⟨#[x0, x1, undef, undef, (D 0), x5, x0, x7, x1, x9, x10, x5, x0, x13, x14, (D 5), (D 6), x0, x5, x19, x20, x1, x5, x23, x24, x25], []⟩) (by kernel_rfl) ?_
        refine wp_if rfl H (fun H => ?_) (fun H => ?_)
        · refine wp_seq ?_
          refine lwp_list ?_
          refine ls_assign (x := (.bool false)) (by kernel_rfl) (by kernel_rfl) ?_
          refine ls_nil ?_
          refine then_normal ?_
          refine fr_eq (b := ⟨#[x0, x1, undef, undef, (.bool false), x5, x0, x7, x1, x9, x10, x5, x0, x13, x14, (D 5), (D 6), x0, x5, x19, x20, x1, x5, x23, x24, x25], []⟩) (by kernel_rfl) ?_
          refine wp_ret ?_
          refine block_ret ?_
          refine then_ret ?_
          refine then_ret ?_
          refine block_ret ?_
          refine then_ret ?_
          exact end1 (Tryd.results15) (by kernel_rfl) (by kernel_rfl) HA_1 H _ (.inr rfl)
        · refine wp_skip ?_
          refine block_normal ?_
          refine then_normal ?_
          refine fr_eq (b := ⟨#[x0, x1, undef, undef, (D 0), x5, x0, x7, x1, x9, x10, x5, x0, x13, x14, (D 5), (D 6), x0, x5, x19, x20, x1, x5, x23, x24, x25], []⟩) (by kernel_rfl) ?_
          refine lwp_list ?_
          refine ls_move (x := x5) (by kernel_rfl) (by kernel_rfl) ?_
          refine ls_p (d := some 16) (by kernel_rfl) (by kernel_rfl) (p_add (by kernel_rfl) (by kernel_rfl) H) (fun x16 H => ?_)
          refine ls_assign (x := x16) (by kernel_rfl) (by kernel_rfl) ?_
          refine ls_nil ?_
          exact ⟨⟨(fun i => ([(D 0), x5, x0, x13, x14, x5, x16, x0, x5, x19, x20, x1, x5, x23, x24, x25]).getD i undef), x16, h, by kernel_rfl, HA_1, H.1⟩, loop_lt HA_1.heap HA.heap (by kernel_rfl) (by kernel_rfl) H.2⟩
      · refine wp_exit ?_
        refine then_exit ?_
        refine then_exit ?_
        refine block_exit ?_
        refine then_normal ?_
        refine fr_eq (b := ⟨#[x0, x1, undef, undef, (D 0), x5, x0, x7, x1, x9, x10, x5, x0, x13, x14, (D 5), (D 6), (D 7), (D 8), (D 9), (D 10), (D 11), (D 12), (D 13), (D 14), (D 15)], []⟩) (by kernel_rfl) ?_
        refine wp_seq ?_
        refine lwp_list ?_
        refine ls_assign (x := (.bool true)) (by kernel_rfl) (by kernel_rfl) ?_
        refine ls_nil ?_
        refine then_normal ?_
        refine fr_eq (b := ⟨#[x0, x1, undef, undef, (.bool true), x5, x0, x7, x1, x9, x10, x5, x0, x13, x14, (D 5), (D 6), (D 7), (D 8), (D 9), (D 10), (D 11), (D 12), (D 13), (D 14), (D 15)], []⟩) (by kernel_rfl) ?_
        refine wp_ret ?_
        exact end1 (Tryd.results15) (by kernel_rfl) (by kernel_rfl) HA H _ (.inr rfl)

end Go.Proofs.YtjlpgakoedigoaaDoor
