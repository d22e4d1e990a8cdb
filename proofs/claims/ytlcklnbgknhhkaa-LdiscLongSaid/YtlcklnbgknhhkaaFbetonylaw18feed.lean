/- The shallow reading of one function, and that the function does it. Written by a program. -/
import Derived.Test.YtlcklnbgknhhkaaFnC
set_option linter.unusedVariables false
namespace Go.Proofs.Ytlcklnbgknhhkaa
open Go Go.HW

def betonylaw18_feed_j2 (next : Value → Value → Value → Heap → Prop) (x8 x6_1 x7_1 : Value) (h_1 : Heap) : Prop :=
  sAdd .i64 x8 (.int .i64 1) fun x16 =>
  next x6_1 x7_1 x16 h_1
def betonylaw18_feed_l1 (R : Value → Heap → Prop) (x0 x1 : Value) (next : Value → Value → Value → Heap → Prop) (x6 x7 x8 : Value) (h : Heap) : Prop :=
  sLen x1 fun x13 =>
  sLt x8 x13 fun x14 =>
  sIf x14 (sIxS x1 x8 1 fun x21 =>
  sLd h x21 fun x22 =>
  ldisc_Disc_Input_c x0 x22 h fun x23 h_2 => 
  sTup x23 0 fun x24 =>
  sTup x23 1 fun x25 =>
  sApp h_2 x6 x24 #[.int .u8 0] 5 1 fun x28 h_3 => 
  sNe x25 (.int .i64 0) fun x30 =>
  sIf x30 (betonylaw18_feed_j2 next x8 x28 x25 h_3) (betonylaw18_feed_j2 next x8 x28 x7 h_3)) (R (.tuple #[x6, x7]) h)
def betonylaw18_feed_S (x0 x1 : Value) (h : Heap) (R : Value → Heap → Prop) : Prop :=
  sLoop (S := Value × Value × Value) (fun nxt s h => betonylaw18_feed_l1 R x0 x1 (fun x6' x7' x8' h => nxt (x6', x7', x8') h) s.1 s.2.1 s.2.2 h) ((.slice none 0 0), (.int .i64 0), (.int .i64 0)) h
set_option maxRecDepth 100000 in
theorem betonylaw18_feed_runs {x0 x1 : Value} {h : Heap} {R : Value → Heap → Prop} (H : betonylaw18_feed_S x0 x1 h R) : betonylaw18_feed_c x0 x1 h R := by
  unfold betonylaw18_feed_S at H
  refine runs_of (b := ⟨#[x0, x1, undef, undef, undef, undef, undef, undef, undef, undef, undef, undef, undef, undef, undef, undef, undef, undef, undef, undef, undef, undef, undef, undef, undef, undef, undef, undef, undef, undef, undef, undef, undef, undef], []⟩) Try.call15 Try.func15 rfl (by kernel_rfl) (fun w0 HA => ?_)
  refine wp_seq ?_
  refine lwp_list ?_
  refine ls_assign (x := (.slice none 0 0)) (by kernel_rfl) (by kernel_rfl) ?_
  refine ls_assign (x := (.int .i64 0)) (by kernel_rfl) (by kernel_rfl) ?_
  refine ls_nil ?_
  refine then_normal ?_
  refine fr_eq (b := ⟨#[x0, x1, undef, undef, (.slice none 0 0), (.int .i64 0), undef, undef, undef, undef, undef, undef, undef, undef, undef, undef, undef, undef, undef, undef, undef, undef, undef, undef, undef, undef, undef, undef, undef, undef, undef, undef, undef, undef], []⟩) (by kernel_rfl) ?_
  refine wp_seq ?_
  refine lwp_list ?_
  refine ls_assign (x := (.slice none 0 0)) (by kernel_rfl) (by kernel_rfl) ?_
  refine ls_nil ?_
  refine then_normal ?_
  refine fr_eq (b := ⟨#[x0, x1, undef, undef, (.slice none 0 0), (.int .i64 0), (.slice none 0 0), undef, undef, undef, undef, undef, undef, undef, undef, undef, undef, undef, undef, undef, undef, undef, undef, undef, undef, undef, undef, undef, undef, undef, undef, undef, undef, undef], []⟩) (by kernel_rfl) ?_
  refine wp_seq ?_
  refine lwp_list ?_
  refine ls_assign (x := (.int .i64 0)) (by kernel_rfl) (by kernel_rfl) ?_
  refine ls_nil ?_
  refine then_normal ?_
  refine fr_eq (b := ⟨#[x0, x1, undef, undef, (.slice none 0 0), (.int .i64 0), (.slice none 0 0), (.int .i64 0), undef, undef, undef, undef, undef, undef, undef, undef, undef, undef, undef, undef, undef, undef, undef, undef, undef, undef, undef, undef, undef, undef, undef, undef, undef, undef], []⟩) (by kernel_rfl) ?_
  refine wp_seq ?_
  refine wp_seq ?_
  refine lwp_list ?_
  refine ls_assign (x := (.int .i64 0)) (by kernel_rfl) (by kernel_rfl) ?_
  refine ls_nil ?_
  refine then_normal ?_
  refine fr_eq (b := ⟨#[x0, x1, undef, undef, (.slice none 0 0), (.int .i64 0), (.slice none 0 0), (.int .i64 0), (.int .i64 0), undef, undef, undef, undef, undef, undef, undef, undef, undef, undef, undef, undef, undef, undef, undef, undef, undef, undef, undef, undef, undef, undef, undef, undef, undef], []⟩) (by kernel_rfl) ?_
  refine wp_block ?_
  obtain ⟨I, m, H0, HB⟩ := H
  refine wp_loop (fun a w => ∃ (D : Nat → Value) (x6 x7 x8 : Value) (h : Heap), a = ⟨#[x0, x1, undef, undef, (.slice none 0 0), (.int .i64 0), x6, x7, x8, (D 0), (D 1), (D 2), (D 3), (D 4), (D 5), (D 6), (D 7), (D 8), (D 9), (D 10), (D 11), (D 12), (D 13), (D 14), (D 15), (D 16), (D 17), (D 18), (D 19), (D 20), (D 21), (D 22), undef, undef], []⟩ ∧ At w0 w h ∧ I (x6, x7, x8) h) (fun a w => m ((a.tmps.getD 6 undef), (a.tmps.getD 7 undef), (a.tmps.getD 8 undef)) w.heap) ?_ ?_
  · exact ⟨(fun i => ([undef, undef, undef, undef, undef, undef, undef, undef, undef, undef, undef, undef, undef, undef, undef, undef, undef, undef, undef, undef, undef, undef, undef]).getD i undef), (.slice none 0 0), (.int .i64 0), (.int .i64 0), h, by kernel_rfl, HA, H0⟩
  · rintro _ w ⟨D, x6, x7, x8, h, rfl, HA, HI⟩
    have H : betonylaw18_feed_l1 R x0 x1 (fun x6' x7' x8' h' => I (x6', x7', x8') h' ∧ m (x6', x7', x8') h' < m (x6, x7, x8) h) x6 x7 x8 h := HB (x6, x7, x8) h HI
    clear HB H0 HI
    unfold betonylaw18_feed_l1 at H
    refine wp_seq ?_
    refine wp_seq ?_
    refine lwp_list ?_
    refine ls_move (x := x8) (by kernel_rfl) (by kernel_rfl) ?_
    refine ls_move (x := x1) (by kernel_rfl) (by kernel_rfl) ?_
    refine ls_p (d := some 13) (by kernel_rfl) (by kernel_rfl) (p_len Try.underlying30 (by kernel_rfl) H) (fun x13 H => ?_)
    refine ls_p (d := some 14) (by kernel_rfl) (by kernel_rfl) (p_sLt (by kernel_rfl) (by kernel_rfl) H) (fun x14 H => ?_)
    refine ls_nil ?_
    refine then_normal ?_
    refine fr_eq (b := ⟨#[x0, x1, undef, undef, (.slice none 0 0), (.int .i64 0), x6, x7, x8, (D 0), (D 1), x8, x1, x13, x14, (D 6), (D 7), (D 8), (D 9), (D 10), (D 11), (D 12), (D 13), (D 14), (D 15), (D 16), (D 17), (D 18), (D 19), (D 20), (D 21), (D 22), undef, undef], []⟩) (by kernel_rfl) ?_
    refine wp_if rfl H (fun H => ?_) (fun H => ?_)
    · refine wp_skip ?_
      refine then_normal ?_
      refine fr_eq (b := ⟨#[x0, x1, undef, undef, (.slice none 0 0), (.int .i64 0), x6, x7, x8, (D 0), (D 1), x8, x1, x13, x14, (D 6), (D 7), (D 8), (D 9), (D 10), (D 11), (D 12), (D 13), (D 14), (D 15), (D 16), (D 17), (D 18), (D 19), (D 20), (D 21), (D 22), undef, undef], []⟩) (by kernel_rfl) ?_
      refine wp_seq ?_
      refine wp_join (fun a w => ∃ (D_1 : Nat → Value) (x6_1 x7_1 : Value) (h_1 : Heap), a = ⟨#[x0, x1, undef, undef, (.slice none 0 0), (.int .i64 0), x6_1, x7_1, x8, (D_1 0), (D_1 1), x8, x1, x13, x14, (D 6), (D 7), (D_1 2), (D_1 3), (D_1 4), (D_1 5), (D_1 6), (D_1 7), (D_1 8), (D_1 9), (D_1 10), (D_1 11), (D_1 12), (D_1 13), (D_1 14), (D_1 15), (D_1 16), undef, undef], []⟩ ∧ At w0 w h_1 ∧ betonylaw18_feed_j2 (fun x6' x7' x8' h' => I (x6', x7', x8') h' ∧ m (x6', x7', x8') h' < m (x6, x7, x8) h) x8 x6_1 x7_1 h_1) ?_ ?_
      · refine wp_block ?_
        refine wp_seq ?_
        refine lwp_list ?_
        refine ls_move (x := x0) (by kernel_rfl) (by kernel_rfl) ?_
        refine ls_move (x := x1) (by kernel_rfl) (by kernel_rfl) ?_
        refine ls_move (x := x8) (by kernel_rfl) (by kernel_rfl) ?_
        refine ls_p (d := some 21) (by kernel_rfl) (by kernel_rfl) (p_ixs Try.underlying30 Try.sizeOf5 (by kernel_rfl) (by kernel_rfl) H) (fun x21 H => ?_)
        refine ls_y (d := some 22) (by kernel_rfl) (by kernel_rfl) HA (y_ld Try.isAgg5 (by kernel_rfl) H) (fun x22 H => ?_)
        refine ls_d (d := some 23) (by kernel_rfl) (by kernel_rfl) HA (d_call (by kernel_rfl) (by kernel_rfl) H) (fun x23 h_2 w_2 H HA_2 => ?_)
        refine ls_fr (b := ⟨#[x0, x1, undef, undef, (.slice none 0 0), (.int .i64 0), x6, x7, x8, (D 0), (D 1), x8, x1, x13, x14, (D 6), (D 7), (D 8), x0, x1, x8, x21, x22, x23, (D 15), (D 16), (D 17), (D 18), (D 19), (D 20), (D 21), (D 22), undef, undef], []⟩) (by kernel_rfl) ?_
        refine ls_move (x := x23) (by kernel_rfl) (by kernel_rfl) ?_
        refine ls_p (d := some 24) (by kernel_rfl) (by kernel_rfl) (p_tup (by kernel_rfl) H) (fun x24 H => ?_)
        refine ls_p (d := some 25) (by kernel_rfl) (by kernel_rfl) (p_tup (by kernel_rfl) H) (fun x25 H => ?_)
        refine ls_assign (x := x24) (by kernel_rfl) (by kernel_rfl) ?_
        refine ls_assign (x := x25) (by kernel_rfl) (by kernel_rfl) ?_
        refine ls_nil ?_
        refine then_normal ?_
        refine fr_eq (b := ⟨#[x0, x1, undef, undef, (.slice none 0 0), (.int .i64 0), x6, x7, x8, x24, x25, x8, x1, x13, x14, (D 6), (D 7), x23, x0, x1, x8, x21, x22, x23, x24, x25, (D 17), (D 18), (D 19), (D 20), (D 21), (D 22), undef, undef], []⟩) (by kernel_rfl) ?_
        refine wp_seq ?_
        refine lwp_list ?_
        refine ls_move (x := x6) (by kernel_rfl) (by kernel_rfl) ?_
        refine ls_move (x := x24) (by kernel_rfl) (by kernel_rfl) ?_
        refine ls_d (d := some 28) (by kernel_rfl) (by kernel_rfl) HA_2 (d_app (z := #[.int .u8 0]) Try.underlying30 Try.underlying30 (.inl ⟨_, rfl⟩) Try.typeInfo5 (by kernel_rfl) Try.sizeOf5 Try.zeroValue5 (by kernel_rfl) (by kernel_rfl) (by kernel_rfl) H) (fun x28 h_3 w_3 H HA_3 => ?_)
        refine ls_assign (x := x28) (by kernel_rfl) (by kernel_rfl) ?_
        refine ls_nil ?_
        refine then_normal ?_
        refine fr_eq (b := ⟨#[x0, x1, undef, undef, (.slice none 0 0), (.int .i64 0), x28, x7, x8, x24, x25, x8, x1, x13, x14, (D 6), (D 7), x23, x0, x1, x8, x21, x22, x23, x24, x25, x6, x24, x28, (D 20), (D 21), (D 22), undef, undef], []⟩) (by kernel_rfl) ?_
        refine wp_seq ?_
        refine lwp_list ?_
        refine ls_move (x := x25) (by kernel_rfl) (by kernel_rfl) ?_
        refine ls_p (d := some 30) (by kernel_rfl) (by kernel_rfl) (p_sNe (by kernel_rfl) (by kernel_rfl) H) (fun x30 H => ?_)
        refine ls_nil ?_
        refine then_normal ?_
        refine fr_eq (b := ⟨#[x0, x1, undef, undef, (.slice none 0 0), (.int .i64 0), x28, x7, x8, x24, x25, x8, x1, x13, x14, (D 6), (D 7), x23, x0, x1, x8, x21, x22, x23, x24, x25, x6, x24, x28, x25, x30, (D 22), undef, undef], []⟩) (by kernel_rfl) ?_
        refine wp_if rfl H (fun H => ?_) (fun H => ?_)
        · refine lwp_list ?_
          refine ls_move (x := x25) (by kernel_rfl) (by kernel_rfl) ?_
          refine ls_assign (x := x25) (by kernel_rfl) (by kernel_rfl) ?_
          refine ls_nil ?_
          refine block_normal ?_
          exact ⟨(fun i => ([x24, x25, x23, x0, x1, x8, x21, x22, x23, x24, x25, x6, x24, x28, x25, x30, x25]).getD i undef), x28, x25, h_3, by kernel_rfl, HA_3, H⟩
        · refine wp_skip ?_
          refine block_normal ?_
          exact ⟨(fun i => ([x24, x25, x23, x0, x1, x8, x21, x22, x23, x24, x25, x6, x24, x28, x25, x30, (D 22)]).getD i undef), x28, x7, h_3, by kernel_rfl, HA_3, H⟩
      · rintro _ w_1 ⟨D_1, x6_1, x7_1, h_1, rfl, HA_1, H⟩
        unfold betonylaw18_feed_j2 at H
        refine then_normal ?_
        refine fr_eq (b := ⟨#[x0, x1, undef, undef, (.slice none 0 0), (.int .i64 0), x6_1, x7_1, x8, (D_1 0), (D_1 1), x8, x1, x13, x14, (D 6), (D 7), (D_1 2), (D_1 3), (D_1 4), (D_1 5), (D_1 6), (D_1 7), (D_1 8), (D_1 9), (D_1 10), (D_1 11), (D_1 12), (D_1 13), (D_1 14), (D_1 15), (D_1 16), undef, undef], []⟩) (by kernel_rfl) ?_
        refine lwp_list ?_
        refine ls_move (x := x8) (by kernel_rfl) (by kernel_rfl) ?_
        refine ls_p (d := some 16) (by kernel_rfl) (by kernel_rfl) (p_add (by kernel_rfl) (by kernel_rfl) H) (fun x16 H => ?_)
        refine ls_assign (x := x16) (by kernel_rfl) (by kernel_rfl) ?_
        refine ls_nil ?_
        exact ⟨⟨(fun i => ([(D_1 0), (D_1 1), x8, x1, x13, x14, x8, x16, (D_1 2), (D_1 3), (D_1 4), (D_1 5), (D_1 6), (D_1 7), (D_1 8), (D_1 9), (D_1 10), (D_1 11), (D_1 12), (D_1 13), (D_1 14), (D_1 15), (D_1 16)]).getD i undef), x6_1, x7_1, x16, h_1, by kernel_rfl, HA_1, H.1⟩, loop_lt HA_1.heap HA.heap (by kernel_rfl) (by kernel_rfl) H.2⟩
    · refine wp_exit ?_
      refine then_exit ?_
      refine then_exit ?_
      refine block_exit ?_
      refine then_normal ?_
      refine fr_eq (b := ⟨#[x0, x1, undef, undef, (.slice none 0 0), (.int .i64 0), x6, x7, x8, (D 0), (D 1), x8, x1, x13, x14, (D 6), (D 7), (D 8), (D 9), (D 10), (D 11), (D 12), (D 13), (D 14), (D 15), (D 16), (D 17), (D 18), (D 19), (D 20), (D 21), (D 22), undef, undef], []⟩) (by kernel_rfl) ?_
      refine wp_seq ?_
      refine lwp_list ?_
      refine ls_move (x := x6) (by kernel_rfl) (by kernel_rfl) ?_
      refine ls_move (x := x7) (by kernel_rfl) (by kernel_rfl) ?_
      refine ls_assign (x := x6) (by kernel_rfl) (by kernel_rfl) ?_
      refine ls_assign (x := x7) (by kernel_rfl) (by kernel_rfl) ?_
      refine ls_nil ?_
      refine then_normal ?_
      refine fr_eq (b := ⟨#[x0, x1, undef, undef, x6, x7, x6, x7, x8, (D 0), (D 1), x8, x1, x13, x14, (D 6), (D 7), (D 8), (D 9), (D 10), (D 11), (D 12), (D 13), (D 14), (D 15), (D 16), (D 17), (D 18), (D 19), (D 20), (D 21), (D 22), x6, x7], []⟩) (by kernel_rfl) ?_
      refine wp_ret ?_
      exact end2 (Try.results15) (by kernel_rfl) (by kernel_rfl) (by kernel_rfl) HA H _ (.inr rfl)

end Go.Proofs.Ytlcklnbgknhhkaa
