/- The shallow reading of one function, and that the function does it. Written by a program. -/
import Derived.Test.YtlcklnbgknhhkaaFnC
set_option linter.unusedVariables false
namespace Go.Proofs.Ytlcklnbgknhhkaa
open Go Go.HW

def ldisc_Disc_Ready_l1 (R : Value → Heap → Prop) (x14 x15 : Value) (next : Value → Value → Heap → Prop) (x3 x16 : Value) (h : Heap) : Prop :=
  sLt x16 x15 fun x17 =>
  sIf x17 (sIxS x14 x16 1 fun x18 =>
  sLd h x18 fun x19 =>
  sLen x19 fun x22 =>
  sAdd .i64 x3 x22 fun x23 =>
  sAdd .i64 x16 (.int .i64 1) fun x24 =>
  next x23 x24 h) (R x3 h)
def ldisc_Disc_Ready_S (x0 : Value) (h : Heap) (R : Value → Heap → Prop) : Prop :=
  sNil x0 fun x7 =>
  sOff x7 19 fun x8 =>
  sLd h x8 fun x9 =>
  sLen x9 fun x10 =>
  sNil x0 fun x12 =>
  sOff x12 18 fun x13 =>
  sLd h x13 fun x14 =>
  sLen x14 fun x15 =>
  sLoop (S := Value × Value) (fun nxt s h => ldisc_Disc_Ready_l1 R x14 x15 (fun x3' x16' h => nxt (x3', x16') h) s.1 s.2 h) (x10, (.int .i64 0)) h
set_option maxRecDepth 100000 in
theorem ldisc_Disc_Ready_runs {x0 : Value} {h : Heap} {R : Value → Heap → Prop} (H : ldisc_Disc_Ready_S x0 h R) : ldisc_Disc_Ready_c x0 h R := by
  unfold ldisc_Disc_Ready_S at H
  refine runs_of (b := ⟨#[x0, undef, undef, undef, undef, undef, undef, undef, undef, undef, undef, undef, undef, undef, undef, undef, undef, undef, undef, undef, undef, undef, undef, undef, undef, undef], []⟩) Try.call18 Try.func18 rfl (by kernel_rfl) (fun w0 HA => ?_)
  refine wp_seq ?_
  refine lwp_list ?_
  refine ls_assign (x := (.int .i64 0)) (by kernel_rfl) (by kernel_rfl) ?_
  refine ls_nil ?_
  refine then_normal ?_
  refine fr_eq (b := ⟨#[x0, undef, (.int .i64 0), undef, undef, undef, undef, undef, undef, undef, undef, undef, undef, undef, undef, undef, undef, undef, undef, undef, undef, undef, undef, undef, undef, undef], []⟩) (by kernel_rfl) ?_
  refine wp_seq ?_
  refine lwp_list ?_
  refine ls_move (x := x0) (by kernel_rfl) (by kernel_rfl) ?_
  refine ls_p (d := some 7) (by kernel_rfl) (by kernel_rfl) (p_nil (by kernel_rfl) H) (fun x7 H => ?_)
  refine ls_p (d := some 8) (by kernel_rfl) (by kernel_rfl) (p_off Try.underlying72 rfl (fun w => ⟨_, Try.sizeOf30 w⟩) rfl (by kernel_rfl) H) (fun x8 H => ?_)
  refine ls_y (d := some 9) (by kernel_rfl) (by kernel_rfl) HA (y_ld Try.isAgg30 (by kernel_rfl) H) (fun x9 H => ?_)
  refine ls_p (d := some 10) (by kernel_rfl) (by kernel_rfl) (p_len Try.underlying30 (by kernel_rfl) H) (fun x10 H => ?_)
  refine ls_assign (x := x10) (by kernel_rfl) (by kernel_rfl) ?_
  refine ls_nil ?_
  refine then_normal ?_
  refine fr_eq (b := ⟨#[x0, undef, (.int .i64 0), x10, undef, undef, x0, x7, x8, x9, x10, undef, undef, undef, undef, undef, undef, undef, undef, undef, undef, undef, undef, undef, undef, undef], []⟩) (by kernel_rfl) ?_
  refine wp_seq ?_
  refine wp_seq ?_
  refine lwp_list ?_
  refine ls_move (x := x0) (by kernel_rfl) (by kernel_rfl) ?_
  refine ls_p (d := some 12) (by kernel_rfl) (by kernel_rfl) (p_nil (by kernel_rfl) H) (fun x12 H => ?_)
  refine ls_p (d := some 13) (by kernel_rfl) (by kernel_rfl) (p_off Try.underlying72 rfl (fun w => ⟨_, Try.sizeOf22 w⟩) rfl (by kernel_rfl) H) (fun x13 H => ?_)
  refine ls_y (d := some 14) (by kernel_rfl) (by kernel_rfl) HA (y_ld Try.isAgg22 (by kernel_rfl) H) (fun x14 H => ?_)
  refine ls_p (d := some 15) (by kernel_rfl) (by kernel_rfl) (p_len Try.underlying22 (by kernel_rfl) H) (fun x15 H => ?_)
  refine ls_move (x := (.int .i64 0)) (by kernel_rfl) (by kernel_rfl) ?_
  refine ls_nil ?_
  refine then_normal ?_
  refine fr_eq (b := ⟨#[x0, undef, (.int .i64 0), x10, undef, undef, x0, x7, x8, x9, x10, x0, x12, x13, x14, x15, (.int .i64 0), undef, undef, undef, undef, undef, undef, undef, undef, undef], []⟩) (by kernel_rfl) ?_
  refine wp_block ?_
  obtain ⟨I, m, H0, HB⟩ := H
  refine wp_loop (fun a w => ∃ (D : Nat → Value) (x3 x16 : Value) (h : Heap), a = ⟨#[x0, undef, (.int .i64 0), x3, undef, (D 0), x0, x7, x8, x9, x10, x0, x12, x13, x14, x15, x16, (D 1), (D 2), (D 3), (D 4), (D 5), (D 6), (D 7), (D 8), undef], []⟩ ∧ At w0 w h ∧ I (x3, x16) h) (fun a w => m ((a.tmps.getD 3 undef), (a.tmps.getD 16 undef)) w.heap) ?_ ?_
  · exact ⟨(fun i => ([undef, undef, undef, undef, undef, undef, undef, undef, undef]).getD i undef), x10, (.int .i64 0), h, by kernel_rfl, HA, H0⟩
  · rintro _ w ⟨D, x3, x16, h, rfl, HA, HI⟩
    have H : ldisc_Disc_Ready_l1 R x14 x15 (fun x3' x16' h' => I (x3', x16') h' ∧ m (x3', x16') h' < m (x3, x16) h) x3 x16 h := HB (x3, x16) h HI
    clear HB H0 HI
    unfold ldisc_Disc_Ready_l1 at H
    refine wp_seq ?_
    refine lwp_list ?_
    refine ls_p (d := some 17) (by kernel_rfl) (by kernel_rfl) (p_sLt (by kernel_rfl) (by kernel_rfl) H) (fun x17 H => ?_)
    refine ls_nil ?_
    refine then_normal ?_
    refine fr_eq (b := ⟨#[x0, undef, (.int .i64 0), x3, undef, (D 0), x0, x7, x8, x9, x10, x0, x12, x13, x14, x15, x16, x17, (D 2), (D 3), (D 4), (D 5), (D 6), (D 7), (D 8), undef], []⟩) (by kernel_rfl) ?_
    refine wp_seq ?_
    refine wp_if rfl H (fun H => ?_) (fun H => ?_)
    · refine wp_skip ?_
      refine then_normal ?_
      refine fr_eq (b := ⟨#[x0, undef, (.int .i64 0), x3, undef, (D 0), x0, x7, x8, x9, x10, x0, x12, x13, x14, x15, x16, x17, (D 2), (D 3), (D 4), (D 5), (D 6), (D 7), (D 8), undef], []⟩) (by kernel_rfl) ?_
      refine wp_seq ?_
      refine wp_block ?_
      refine wp_seq ?_
      refine lwp_list ?_
      refine ls_p (d := some 18) (by kernel_rfl) (by kernel_rfl) (p_ixs Try.underlying22 Try.sizeOf30 (by kernel_rfl) (by kernel_rfl) H) (fun x18 H => ?_)
      refine ls_y (d := some 19) (by kernel_rfl) (by kernel_rfl) HA (y_ld Try.isAgg30 (by kernel_rfl) H) (fun x19 H => ?_)
      refine ls_assign (x := x19) (by kernel_rfl) (by kernel_rfl) ?_
      refine ls_nil ?_
      refine then_normal ?_
      refine fr_eq (b := ⟨#[x0, undef, (.int .i64 0), x3, undef, x19, x0, x7, x8, x9, x10, x0, x12, x13, x14, x15, x16, x17, x18, x19, (D 4), (D 5), (D 6), (D 7), (D 8), undef], []⟩) (by kernel_rfl) ?_
      refine lwp_list ?_
      refine ls_move (x := x3) (by kernel_rfl) (by kernel_rfl) ?_
      refine ls_move (x := x19) (by kernel_rfl) (by kernel_rfl) ?_
      refine ls_p (d := some 22) (by kernel_rfl) (by kernel_rfl) (p_len Try.underlying30 (by kernel_rfl) H) (fun x22 H => ?_)
      refine ls_p (d := some 23) (by kernel_rfl) (by kernel_rfl) (p_add (by kernel_rfl) (by kernel_rfl) H) (fun x23 H => ?_)
      refine ls_assign (x := x23) (by kernel_rfl) (by kernel_rfl) ?_
      refine ls_nil ?_
      refine block_normal ?_
      refine then_normal ?_
      refine fr_eq (b := ⟨#[x0, undef, (.int .i64 0), x23, undef, x19, x0, x7, x8, x9, x10, x0, x12, x13, x14, x15, x16, x17, x18, x19, x3, x19, x22, x23, (D 8), undef], []⟩) (by kernel_rfl) ?_
      refine lwp_list ?_
      refine ls_p (d := some 24) (by kernel_rfl) (by kernel_rfl) (p_add (by kernel_rfl) (by kernel_rfl) H) (fun x24 H => ?_)
      refine ls_move (x := x24) (by kernel_rfl) (by kernel_rfl) ?_
      refine ls_nil ?_
      exact ⟨⟨(fun i => ([x19, x17, x18, x19, x3, x19, x22, x23, x24]).getD i undef), x23, x24, h, by kernel_rfl, HA, H.1⟩, loop_lt HA.heap HA.heap (by kernel_rfl) (by kernel_rfl) H.2⟩
    · refine wp_exit ?_
      refine then_exit ?_
      refine then_exit ?_
      refine block_exit ?_
      refine then_normal ?_
      refine fr_eq (b := ⟨#[x0, undef, (.int .i64 0), x3, undef, (D 0), x0, x7, x8, x9, x10, x0, x12, x13, x14, x15, x16, x17, (D 2), (D 3), (D 4), (D 5), (D 6), (D 7), (D 8), undef], []⟩) (by kernel_rfl) ?_
      refine wp_seq ?_
      refine lwp_list ?_
      refine ls_move (x := x3) (by kernel_rfl) (by kernel_rfl) ?_
      refine ls_assign (x := x3) (by kernel_rfl) (by kernel_rfl) ?_
      refine ls_nil ?_
      refine then_normal ?_
      refine fr_eq (b := ⟨#[x0, undef, x3, x3, undef, (D 0), x0, x7, x8, x9, x10, x0, x12, x13, x14, x15, x16, x17, (D 2), (D 3), (D 4), (D 5), (D 6), (D 7), (D 8), x3], []⟩) (by kernel_rfl) ?_
      refine wp_ret ?_
      exact end1 (Try.results18) (by kernel_rfl) (by kernel_rfl) HA H _ (.inr rfl)

end Go.Proofs.Ytlcklnbgknhhkaa
