/- The shallow reading of one function, and that the function does it. Written by a program. -/
import Derived.Test.YtlcklnbgknhhkaaFnC
set_option linter.unusedVariables false
namespace Go.Proofs.Ytlcklnbgknhhkaa
open Go Go.HW

def betonyref17_Plain_l1 (R : Value → Heap → Prop) (x0 x1 x5 : Value) (next : Value → Heap → Prop) (x3 : Value) (h_4 : Heap) : Prop :=
  sLt x3 (.int .i64 12) fun x7 =>
  sIf x7 (sIxS x5 x3 1 fun x13 =>
  sLd h_4 x13 fun x14 =>
  sOff x1 3 fun x15 =>
  sIxA x15 x3 12 1 fun x16 =>
  sSt h_4 x16 x14 fun h_5 => 
  sAdd .i64 x3 (.int .i64 1) fun x9 =>
  next x9 h_5) (sLdN h_4 x1 17 fun x17 =>
  sStN h_4 x0 x17 17 fun h_6 => 
  sLdN h_6 x0 17 fun r0 =>
  R r0 h_6)
def betonyref17_Plain_S (h : Heap) (R : Value → Heap → Prop) : Prop :=
  sNew h #[.int .i64 0, .int .i64 0, .int .i64 0, .int .i64 0, .int .i64 0, .int .i64 0, .int .i64 0, .int .i64 0, .int .i64 0, .int .i64 0, .int .i64 0, .int .i64 0, .int .i64 0, .int .i64 0, .int .i64 0, .int .i64 0, .int .i64 0] 28 fun x0 h => 
  sBuild #[.int .i64 0, .int .i64 0, .int .i64 0, .int .i64 0, .int .i64 0, .int .i64 0, .int .i64 0, .int .i64 0, .int .i64 0, .int .i64 0, .int .i64 0, .int .i64 0, .int .i64 0, .int .i64 0, .int .i64 0, .int .i64 0, .int .i64 0] [(0, 1, (.int .i64 84)), (1, 1, (.int .i64 3)), (2, 1, (.int .i64 623)), (15, 1, (.int .i64 1))] fun x4 =>
  sNew h #[.int .i64 0, .int .i64 0, .int .i64 0, .int .i64 0, .int .i64 0, .int .i64 0, .int .i64 0, .int .i64 0, .int .i64 0, .int .i64 0, .int .i64 0, .int .i64 0, .int .i64 0, .int .i64 0, .int .i64 0, .int .i64 0, .int .i64 0] 28 fun x1 h_1 => 
  sStN h_1 x1 x4 17 fun h_2 => 
  sSlit h_2 #[.int .i64 0, .int .i64 0, .int .i64 0, .int .i64 0, .int .i64 0, .int .i64 0, .int .i64 0, .int .i64 0, .int .i64 0, .int .i64 0, .int .i64 0, .int .i64 0] [(0, 1, (.int .i64 3)), (1, 1, (.int .i64 28)), (2, 1, (.int .i64 26)), (3, 1, (.int .i64 4)), (4, 1, (.int .i64 0)), (5, 1, (.int .i64 127)), (6, 1, (.int .i64 21)), (7, 1, (.int .i64 23)), (8, 1, (.int .i64 18)), (9, 1, (.int .i64 22)), (10, 1, (.int .i64 17)), (11, 1, (.int .i64 19))] 3 12 fun x5 h_3 => 
  sLoop (S := Value) (fun nxt s h => betonyref17_Plain_l1 R x0 x1 x5 (fun x3' h => nxt x3' h) s h) (.int .i64 0) h_3
set_option maxRecDepth 100000 in
theorem betonyref17_Plain_runs {h : Heap} {R : Value → Heap → Prop} (H : betonyref17_Plain_S  h R) : betonyref17_Plain_c  h R := by
  unfold betonyref17_Plain_S at H
  refine runs_of (b := ⟨#[undef, undef, undef, undef, undef, undef, undef, undef, undef, undef, undef, undef, undef, undef, undef, undef, undef, undef], []⟩) Try.call14 Try.func14 rfl (by kernel_rfl) (fun w0 HA => ?_)
  refine wp_seq ?_
  refine lwp_list ?_
  refine ls_d (d := some 0) (by kernel_rfl) (by kernel_rfl) HA (d_alloc Try.zeroValue28 H) (fun x0 h w H HA => ?_)
  refine ls_nil ?_
  refine then_normal ?_
  refine fr_eq (b := ⟨#[x0, undef, undef, undef, undef, undef, undef, undef, undef, undef, undef, undef, undef, undef, undef, undef, undef, undef], []⟩) (by kernel_rfl) ?_
  refine wp_seq ?_
  refine lwp_list ?_
  refine ls_p (d := some 4) (by kernel_rfl) (by kernel_rfl) (p_lit (pl := [(0, 1), (1, 1), (2, 1), (3, 12), (15, 1), (16, 1)]) Try.zeroValue28 Try.underlying28 ⟨(by kernel_rfl), Try.sizeOf3, (by kernel_rfl), Try.sizeOf3, (by kernel_rfl), Try.sizeOf3, (by kernel_rfl), Try.sizeOf26, (by kernel_rfl), Try.sizeOf3, (by kernel_rfl), Try.sizeOf3, trivial⟩ (by kernel_rfl) (by kernel_rfl) H) (fun x4 H => ?_)
  refine ls_d (d := some 1) (by kernel_rfl) (by kernel_rfl) HA (d_alloc Try.zeroValue28 H) (fun x1 h_1 w_1 H HA_1 => ?_)
  refine ls_d (d := none) (by kernel_rfl) (by kernel_rfl) HA_1 (d_stn Try.sizeOf28 (by kernel_rfl) (by kernel_rfl) H) (fun _ h_2 w_2 H HA_2 => ?_)
  refine ls_nil ?_
  refine then_normal ?_
  refine fr_eq (b := ⟨#[x0, x1, undef, undef, x4, undef, undef, undef, undef, undef, undef, undef, undef, undef, undef, undef, undef, undef], []⟩) (by kernel_rfl) ?_
  refine wp_seq ?_
  refine lwp_list ?_
  refine ls_d (d := some 5) (by kernel_rfl) (by kernel_rfl) HA_2 (d_slit (zc := #[.int .i64 0]) Try.underlying56 Try.sizeOf3 (by decide) (.inr ⟨by decide, _, Try.zeroValue3, (by kernel_rfl)⟩) (by kernel_rfl) (by kernel_rfl) H) (fun x5 h_3 w_3 H HA_3 => ?_)
  refine ls_assign (x := x5) (by kernel_rfl) (by kernel_rfl) ?_
  refine ls_nil ?_
  refine then_normal ?_
  refine fr_eq (b := ⟨#[x0, x1, x5, undef, x4, x5, undef, undef, undef, undef, undef, undef, undef, undef, undef, undef, undef, undef], []⟩) (by kernel_rfl) ?_
  refine wp_seq ?_
  refine wp_seq ?_
  refine lwp_list ?_
  refine ls_assign (x := (.int .i64 0)) (by kernel_rfl) (by kernel_rfl) ?_
  refine ls_nil ?_
  refine then_normal ?_
  refine fr_eq (b := ⟨#[x0, x1, x5, (.int .i64 0), x4, x5, undef, undef, undef, undef, undef, undef, undef, undef, undef, undef, undef, undef], []⟩) (by kernel_rfl) ?_
  refine wp_block ?_
  obtain ⟨I, m, H0, HB⟩ := H
  refine wp_loop (fun a w => ∃ (D : Nat → Value) (x3 : Value) (h_4 : Heap), a = ⟨#[x0, x1, x5, x3, x4, x5, (D 0), (D 1), (D 2), (D 3), (D 4), (D 5), (D 6), (D 7), (D 8), (D 9), (D 10), undef], []⟩ ∧ At w0 w h_4 ∧ I x3 h_4) (fun a w => m (a.tmps.getD 3 undef) w.heap) ?_ ?_
  · exact ⟨(fun i => ([undef, undef, undef, undef, undef, undef, undef, undef, undef, undef, undef]).getD i undef), (.int .i64 0), h_3, by kernel_rfl, HA_3, H0⟩
  · rintro _ w_4 ⟨D, x3, h_4, rfl, HA_4, HI⟩
    have H : betonyref17_Plain_l1 R x0 x1 x5 (fun x3' h' => I x3' h' ∧ m x3' h' < m x3 h_4) x3 h_4 := HB x3 h_4 HI
    clear HB H0 HI
    unfold betonyref17_Plain_l1 at H
    refine wp_seq ?_
    refine wp_seq ?_
    refine lwp_list ?_
    refine ls_move (x := x3) (by kernel_rfl) (by kernel_rfl) ?_
    refine ls_p (d := some 7) (by kernel_rfl) (by kernel_rfl) (p_sLt (by kernel_rfl) (by kernel_rfl) H) (fun x7 H => ?_)
    refine ls_nil ?_
    refine then_normal ?_
    refine fr_eq (b := ⟨#[x0, x1, x5, x3, x4, x5, x3, x7, (D 2), (D 3), (D 4), (D 5), (D 6), (D 7), (D 8), (D 9), (D 10), undef], []⟩) (by kernel_rfl) ?_
    refine wp_if rfl H (fun H => ?_) (fun H => ?_)
    · refine wp_skip ?_
      refine then_normal ?_
      refine fr_eq (b := ⟨#[x0, x1, x5, x3, x4, x5, x3, x7, (D 2), (D 3), (D 4), (D 5), (D 6), (D 7), (D 8), (D 9), (D 10), undef], []⟩) (by kernel_rfl) ?_
      refine wp_seq ?_
      refine wp_block ?_
      refine lwp_list ?_
      refine ls_move (x := x3) (by kernel_rfl) (by kernel_rfl) ?_
      refine ls_move (x := x5) (by kernel_rfl) (by kernel_rfl) ?_
      refine ls_move (x := x3) (by kernel_rfl) (by kernel_rfl) ?_
      refine ls_p (d := some 13) (by kernel_rfl) (by kernel_rfl) (p_ixs Try.underlying56 Try.sizeOf3 (by kernel_rfl) (by kernel_rfl) H) (fun x13 H => ?_)
      refine ls_y (d := some 14) (by kernel_rfl) (by kernel_rfl) HA_4 (y_ld Try.isAgg3 (by kernel_rfl) H) (fun x14 H => ?_)
      refine ls_p (d := some 15) (by kernel_rfl) (by kernel_rfl) (p_off Try.underlying28 rfl (fun w => ⟨_, Try.sizeOf26 w⟩) rfl (by kernel_rfl) H) (fun x15 H => ?_)
      refine ls_fr (b := ⟨#[x0, x1, x5, x3, x4, x5, x3, x7, (D 2), (D 3), x3, x5, x3, x13, x14, x15, (D 10), undef], []⟩) (by kernel_rfl) ?_
      refine ls_p (d := some 16) (by kernel_rfl) (by kernel_rfl) (p_ixa Try.underlying26 Try.sizeOf3 (by kernel_rfl) (by kernel_rfl) H) (fun x16 H => ?_)
      refine ls_d (d := none) (by kernel_rfl) (by kernel_rfl) HA_4 (d_st Try.sizeOf3 (by kernel_rfl) (by kernel_rfl) H) (fun _ h_5 w_5 H HA_5 => ?_)
      refine ls_nil ?_
      refine block_normal ?_
      refine then_normal ?_
      refine fr_eq (b := ⟨#[x0, x1, x5, x3, x4, x5, x3, x7, (D 2), (D 3), x3, x5, x3, x13, x14, x15, x16, undef], []⟩) (by kernel_rfl) ?_
      refine lwp_list ?_
      refine ls_move (x := x3) (by kernel_rfl) (by kernel_rfl) ?_
      refine ls_p (d := some 9) (by kernel_rfl) (by kernel_rfl) (p_add (by kernel_rfl) (by kernel_rfl) H) (fun x9 H => ?_)
      refine ls_assign (x := x9) (by kernel_rfl) (by kernel_rfl) ?_
      refine ls_nil ?_
      exact ⟨⟨(fun i => ([x3, x7, x3, x9, x3, x5, x3, x13, x14, x15, x16]).getD i undef), x9, h_5, by kernel_rfl, HA_5, H.1⟩, loop_lt HA_5.heap HA_4.heap (by kernel_rfl) (by kernel_rfl) H.2⟩
    · refine wp_exit ?_
      refine then_exit ?_
      refine then_exit ?_
      refine block_exit ?_
      refine then_normal ?_
      refine fr_eq (b := ⟨#[x0, x1, x5, x3, x4, x5, x3, x7, (D 2), (D 3), (D 4), (D 5), (D 6), (D 7), (D 8), (D 9), (D 10), undef], []⟩) (by kernel_rfl) ?_
      refine wp_seq ?_
      refine lwp_list ?_
      refine ls_y (d := some 17) (by kernel_rfl) (by kernel_rfl) HA_4 (y_ldn Try.isAgg28 Try.sizeOf28 (by kernel_rfl) H) (fun x17 H => ?_)
      refine ls_d (d := none) (by kernel_rfl) (by kernel_rfl) HA_4 (d_stn Try.sizeOf28 (by kernel_rfl) (by kernel_rfl) H) (fun _ h_6 w_6 H HA_6 => ?_)
      refine ls_nil ?_
      refine then_normal ?_
      refine fr_eq (b := ⟨#[x0, x1, x5, x3, x4, x5, x3, x7, (D 2), (D 3), (D 4), (D 5), (D 6), (D 7), (D 8), (D 9), (D 10), x17], []⟩) (by kernel_rfl) ?_
      refine wp_ret ?_
      obtain ⟨r0, hr0, H⟩ := ld_n Try.isAgg28 Try.sizeOf28 H
      exact endR (vs := [r0]) (Try.results14) (by kernel_rfl) ⟨⟨_, (by kernel_rfl), hr0⟩, trivial⟩ HA_6 H _ (.inr rfl)

end Go.Proofs.Ytlcklnbgknhhkaa
