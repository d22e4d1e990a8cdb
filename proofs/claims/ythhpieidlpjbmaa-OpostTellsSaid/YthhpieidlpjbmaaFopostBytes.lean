/- The shallow reading of one function, and that the function does it. Written by a program. -/
import Derived.Test.YthhpieidlpjbmaaFnC
set_option linter.unusedVariables false
namespace Go.Proofs.Ythhpieidlpjbmaa
open Go Go.HW

def opost_Bytes_l2 (R : Value → Heap → Prop) (x0 x2 x19 : Value) (next : Value → Value → Value → Heap → Prop) (x1_2 x6 x20 : Value) (h_1 : Heap) : Prop :=
  sLt x20 x19 fun x21 =>
  sIf x21 (sIxS x2 x20 1 fun x22 =>
  sLd h_1 x22 fun x23 =>
  opost_Byte_c x0 x1_2 x23 h_1 fun x28 h_2 => 
  sTup x28 0 fun x29 =>
  sTup x28 1 fun x30 =>
  sApp h_2 x6 x29 #[.int .u8 0] 5 1 fun x33 h_3 => 
  sAdd .i64 x20 (.int .i64 1) fun x35 =>
  next x30 x33 x35 h_3) (R (.tuple #[x6, x1_2]) h_1)
def opost_Bytes_j1 (R : Value → Heap → Prop) (x0 x2 x1_1 : Value) (h : Heap) : Prop :=
  sLen x2 fun x19 =>
  sLoop (S := Value × Value × Value) (fun nxt s h => opost_Bytes_l2 R x0 x2 x19 (fun x1_2' x6' x20' h => nxt (x1_2', x6', x20') h) s.1 s.2.1 s.2.2 h) (x1_1, (.slice none 0 0), (.int .i64 0)) h
def opost_Bytes_S (x0 x1 x2 : Value) (h : Heap) (R : Value → Heap → Prop) : Prop :=
  sLt x1 (.int .i64 0) fun x13 =>
  sOr x13 (fun k =>
  sGt x1 (.int .i64 1073741824) fun x16 =>
  k x16) fun x17 =>
  sIf x17 (opost_Bytes_j1 R x0 x2 (.int .i64 0) h) (opost_Bytes_j1 R x0 x2 x1 h)
set_option maxRecDepth 100000 in
theorem opost_Bytes_runs {x0 x1 x2 : Value} {h : Heap} {R : Value → Heap → Prop} (H : opost_Bytes_S x0 x1 x2 h R) : opost_Bytes_c x0 x1 x2 h R := by
  unfold opost_Bytes_S at H
  refine runs_of (b := ⟨#[x0, x1, x2, undef, undef, undef, undef, undef, undef, undef, undef, undef, undef, undef, undef, undef, undef, undef, undef, undef, undef, undef, undef, undef, undef, undef, undef, undef, undef, undef, undef, undef, undef, undef, undef, undef, undef, undef], []⟩) Try.call31 Try.func31 rfl (by kernel_rfl) (fun w0 HA => ?_)
  refine wp_seq ?_
  refine lwp_list ?_
  refine ls_assign (x := (.slice none 0 0)) (by kernel_rfl) (by kernel_rfl) ?_
  refine ls_assign (x := (.int .i64 0)) (by kernel_rfl) (by kernel_rfl) ?_
  refine ls_nil ?_
  refine then_normal ?_
  refine fr_eq (b := ⟨#[x0, x1, x2, undef, undef, undef, (.slice none 0 0), (.int .i64 0), undef, undef, undef, undef, undef, undef, undef, undef, undef, undef, undef, undef, undef, undef, undef, undef, undef, undef, undef, undef, undef, undef, undef, undef, undef, undef, undef, undef, undef, undef], []⟩) (by kernel_rfl) ?_
  refine wp_seq ?_
  refine wp_seq ?_
  refine lwp_list ?_
  refine ls_move (x := x1) (by kernel_rfl) (by kernel_rfl) ?_
  refine ls_p (d := some 13) (by kernel_rfl) (by kernel_rfl) (p_sLt (by kernel_rfl) (by kernel_rfl) H) (fun x13 H => ?_)
  refine ls_move (x := x13) (by kernel_rfl) (by kernel_rfl) ?_
  refine ls_or [(), (), ()] (fun K a w => ∃ (D : Nat → Value) (x17 : Value), a = ⟨#[x0, x1, x2, undef, undef, undef, (.slice none 0 0), (.int .i64 0), undef, undef, undef, undef, x1, x13, x13, (D 0), (D 1), x17, undef, undef, undef, undef, undef, undef, undef, undef, undef, undef, undef, undef, undef, undef, undef, undef, undef, undef, undef, undef], []⟩ ∧ At w0 w h ∧ K x17) H (fun hb H => ?_) (fun hb H => ?_) ?_
  · refine ls_move (x := x1) (by rw [hb]; kernel_rfl) (by kernel_rfl) ?_
    refine ls_p (d := some 16) (by kernel_rfl) (by rw [hb]; kernel_rfl) (p_sGt (by kernel_rfl) (by kernel_rfl) H) (fun x16 H => ?_)
    refine ls_pick_f (y := x16) (by kernel_rfl) (by rw [hb]; kernel_rfl) (by kernel_rfl) ?_
    refine ls_nil ?_
    refine then_normal ?_
    exact ⟨(fun i => ([x1, x16]).getD i undef), x16, by kernel_rfl, HA, H⟩
  · refine ls_skip (d := some 15) (by kernel_rfl) (by rw [hb]; kernel_rfl) ?_
    refine ls_skip (d := some 16) (by kernel_rfl) (by rw [hb]; kernel_rfl) ?_
    refine ls_pick_t (x := (.bool true)) (by kernel_rfl) (by rw [hb]; kernel_rfl) (by kernel_rfl) ?_
    refine ls_nil ?_
    refine then_normal ?_
    exact ⟨(fun i => ([undef, undef]).getD i undef), (.bool true), by kernel_rfl, HA, H⟩
  · rintro _ w ⟨D, x17, rfl, HA, H⟩
    refine ls_nil ?_
    refine then_normal ?_
    refine fr_eq (b := ⟨#[x0, x1, x2, undef, undef, undef, (.slice none 0 0), (.int .i64 0), undef, undef, undef, undef, x1, x13, x13, (D 0), (D 1), x17, undef, undef, undef, undef, undef, undef, undef, undef, undef, undef, undef, undef, undef, undef, undef, undef, undef, undef, undef, undef], []⟩) (by kernel_rfl) ?_
    refine wp_join (fun a w => ∃ (D_1 : Nat → Value) (x1_1 : Value) (h : Heap), a = ⟨#[x0, x1_1, x2, undef, undef, undef, (.slice none 0 0), (.int .i64 0), undef, undef, undef, undef, x1, x13, x13, (D 0), (D 1), x17, undef, undef, undef, undef, undef, undef, undef, undef, undef, undef, undef, undef, undef, undef, undef, undef, undef, undef, undef, undef], []⟩ ∧ At w0 w h ∧ opost_Bytes_j1 R x0 x2 x1_1 h) ?_ ?_
    · refine wp_if rfl H (fun H => ?_) (fun H => ?_)
      · refine lwp_list ?_
        refine ls_assign (x := (.int .i64 0)) (by kernel_rfl) (by kernel_rfl) ?_
        refine ls_nil ?_
        exact ⟨(fun i => ([]).getD i undef), (.int .i64 0), h, by kernel_rfl, HA, H⟩
      · refine wp_skip ?_
        exact ⟨(fun i => ([]).getD i undef), x1, h, by kernel_rfl, HA, H⟩
    · rintro _ w_1 ⟨D_1, x1_1, h, rfl, HA_1, H⟩
      unfold opost_Bytes_j1 at H
      refine then_normal ?_
      refine fr_eq (b := ⟨#[x0, x1_1, x2, undef, undef, undef, (.slice none 0 0), (.int .i64 0), undef, undef, undef, undef, x1, x13, x13, (D 0), (D 1), x17, undef, undef, undef, undef, undef, undef, undef, undef, undef, undef, undef, undef, undef, undef, undef, undef, undef, undef, undef, undef], []⟩) (by kernel_rfl) ?_
      refine wp_seq ?_
      refine wp_seq ?_
      refine lwp_list ?_
      refine ls_move (x := x2) (by kernel_rfl) (by kernel_rfl) ?_
      refine ls_p (d := some 19) (by kernel_rfl) (by kernel_rfl) (p_len Try.underlying56 (by kernel_rfl) H) (fun x19 H => ?_)
      refine ls_move (x := (.int .i64 0)) (by kernel_rfl) (by kernel_rfl) ?_
      refine ls_nil ?_
      refine then_normal ?_
      refine fr_eq (b := ⟨#[x0, x1_1, x2, undef, undef, undef, (.slice none 0 0), (.int .i64 0), undef, undef, undef, undef, x1, x13, x13, (D 0), (D 1), x17, x2, x19, (.int .i64 0), undef, undef, undef, undef, undef, undef, undef, undef, undef, undef, undef, undef, undef, undef, undef, undef, undef], []⟩) (by kernel_rfl) ?_
      refine wp_block ?_
      obtain ⟨I, m, H0, HB⟩ := H
      refine wp_loop (fun a w => ∃ (D_2 : Nat → Value) (x1_2 x6 x20 : Value) (h_1 : Heap), a = ⟨#[x0, x1_2, x2, undef, undef, undef, x6, (.int .i64 0), undef, (D_2 0), (D_2 1), (D_2 2), x1, x13, x13, (D 0), (D 1), x17, x2, x19, x20, (D_2 3), (D_2 4), (D_2 5), (D_2 6), (D_2 7), (D_2 8), (D_2 9), (D_2 10), (D_2 11), (D_2 12), (D_2 13), (D_2 14), (D_2 15), (D_2 16), (D_2 17), undef, undef], []⟩ ∧ At w0 w h_1 ∧ I (x1_2, x6, x20) h_1) (fun a w => m ((a.tmps.getD 1 undef), (a.tmps.getD 6 undef), (a.tmps.getD 20 undef)) w.heap) ?_ ?_
      · exact ⟨(fun i => ([undef, undef, undef, undef, undef, undef, undef, undef, undef, undef, undef, undef, undef, undef, undef, undef, undef, undef]).getD i undef), x1_1, (.slice none 0 0), (.int .i64 0), h, by kernel_rfl, HA_1, H0⟩
      · rintro _ w_2 ⟨D_2, x1_2, x6, x20, h_1, rfl, HA_2, HI⟩
        have H : opost_Bytes_l2 R x0 x2 x19 (fun x1_2' x6' x20' h' => I (x1_2', x6', x20') h' ∧ m (x1_2', x6', x20') h' < m (x1_2, x6, x20) h_1) x1_2 x6 x20 h_1 := HB (x1_2, x6, x20) h_1 HI
        clear HB H0 HI
        unfold opost_Bytes_l2 at H
        refine wp_seq ?_
        refine lwp_list ?_
        refine ls_p (d := some 21) (by kernel_rfl) (by kernel_rfl) (p_sLt (by kernel_rfl) (by kernel_rfl) H) (fun x21 H => ?_)
        refine ls_nil ?_
        refine then_normal ?_
        refine fr_eq (b := ⟨#[x0, x1_2, x2, undef, undef, undef, x6, (.int .i64 0), undef, (D_2 0), (D_2 1), (D_2 2), x1, x13, x13, (D 0), (D 1), x17, x2, x19, x20, x21, (D_2 4), (D_2 5), (D_2 6), (D_2 7), (D_2 8), (D_2 9), (D_2 10), (D_2 11), (D_2 12), (D_2 13), (D_2 14), (D_2 15), (D_2 16), (D_2 17), undef, undef], []⟩) (by kernel_rfl) ?_
        refine wp_seq ?_
        refine wp_if rfl H (fun H => ?_) (fun H => ?_)
        · refine wp_skip ?_
          refine then_normal ?_
          refine fr_eq (b := ⟨#[x0, x1_2, x2, undef, undef, undef, x6, (.int .i64 0), undef, (D_2 0), (D_2 1), (D_2 2), x1, x13, x13, (D 0), (D 1), x17, x2, x19, x20, x21, (D_2 4), (D_2 5), (D_2 6), (D_2 7), (D_2 8), (D_2 9), (D_2 10), (D_2 11), (D_2 12), (D_2 13), (D_2 14), (D_2 15), (D_2 16), (D_2 17), undef, undef], []⟩) (by kernel_rfl) ?_
          refine wp_seq ?_
          refine wp_block ?_
          refine wp_seq ?_
          refine lwp_list ?_
          refine ls_p (d := some 22) (by kernel_rfl) (by kernel_rfl) (p_ixs Try.underlying56 Try.sizeOf5 (by kernel_rfl) (by kernel_rfl) H) (fun x22 H => ?_)
          refine ls_y (d := some 23) (by kernel_rfl) (by kernel_rfl) HA_2 (y_ld Try.isAgg5 (by kernel_rfl) H) (fun x23 H => ?_)
          refine ls_assign (x := x23) (by kernel_rfl) (by kernel_rfl) ?_
          refine ls_nil ?_
          refine then_normal ?_
          refine fr_eq (b := ⟨#[x0, x1_2, x2, undef, undef, undef, x6, (.int .i64 0), undef, x23, (D_2 1), (D_2 2), x1, x13, x13, (D 0), (D 1), x17, x2, x19, x20, x21, x22, x23, (D_2 6), (D_2 7), (D_2 8), (D_2 9), (D_2 10), (D_2 11), (D_2 12), (D_2 13), (D_2 14), (D_2 15), (D_2 16), (D_2 17), undef, undef], []⟩) (by kernel_rfl) ?_
          refine wp_seq ?_
          refine lwp_list ?_
          refine ls_move (x := x0) (by kernel_rfl) (by kernel_rfl) ?_
          refine ls_move (x := x1_2) (by kernel_rfl) (by kernel_rfl) ?_
          refine ls_move (x := x23) (by kernel_rfl) (by kernel_rfl) ?_
          refine ls_d (d := some 28) (by kernel_rfl) (by kernel_rfl) HA_2 (d_call (by kernel_rfl) (by kernel_rfl) H) (fun x28 h_2 w_3 H HA_3 => ?_)
          refine ls_move (x := x28) (by kernel_rfl) (by kernel_rfl) ?_
          refine ls_p (d := some 29) (by kernel_rfl) (by kernel_rfl) (p_tup (by kernel_rfl) H) (fun x29 H => ?_)
          refine ls_fr (b := ⟨#[x0, x1_2, x2, undef, undef, undef, x6, (.int .i64 0), undef, x23, (D_2 1), (D_2 2), x1, x13, x13, (D 0), (D 1), x17, x2, x19, x20, x21, x22, x23, x28, x0, x1_2, x23, x28, x29, (D_2 12), (D_2 13), (D_2 14), (D_2 15), (D_2 16), (D_2 17), undef, undef], []⟩) (by kernel_rfl) ?_
          refine ls_p (d := some 30) (by kernel_rfl) (by kernel_rfl) (p_tup (by kernel_rfl) H) (fun x30 H => ?_)
          refine ls_assign (x := x29) (by kernel_rfl) (by kernel_rfl) ?_
          refine ls_assign (x := x30) (by kernel_rfl) (by kernel_rfl) ?_
          refine ls_nil ?_
          refine then_normal ?_
          refine fr_eq (b := ⟨#[x0, x1_2, x2, undef, undef, undef, x6, (.int .i64 0), undef, x23, x29, x30, x1, x13, x13, (D 0), (D 1), x17, x2, x19, x20, x21, x22, x23, x28, x0, x1_2, x23, x28, x29, x30, (D_2 13), (D_2 14), (D_2 15), (D_2 16), (D_2 17), undef, undef], []⟩) (by kernel_rfl) ?_
          refine wp_seq ?_
          refine lwp_list ?_
          refine ls_move (x := x6) (by kernel_rfl) (by kernel_rfl) ?_
          refine ls_move (x := x29) (by kernel_rfl) (by kernel_rfl) ?_
          refine ls_d (d := some 33) (by kernel_rfl) (by kernel_rfl) HA_3 (d_app (z := #[.int .u8 0]) Try.underlying56 Try.underlying56 (.inl ⟨_, rfl⟩) Try.typeInfo5 (by kernel_rfl) Try.sizeOf5 Try.zeroValue5 (by kernel_rfl) (by kernel_rfl) (by kernel_rfl) H) (fun x33 h_3 w_4 H HA_4 => ?_)
          refine ls_assign (x := x33) (by kernel_rfl) (by kernel_rfl) ?_
          refine ls_nil ?_
          refine then_normal ?_
          refine fr_eq (b := ⟨#[x0, x1_2, x2, undef, undef, undef, x33, (.int .i64 0), undef, x23, x29, x30, x1, x13, x13, (D 0), (D 1), x17, x2, x19, x20, x21, x22, x23, x28, x0, x1_2, x23, x28, x29, x30, x6, x29, x33, (D_2 16), (D_2 17), undef, undef], []⟩) (by kernel_rfl) ?_
          refine lwp_list ?_
          refine ls_move (x := x30) (by kernel_rfl) (by kernel_rfl) ?_
          refine ls_assign (x := x30) (by kernel_rfl) (by kernel_rfl) ?_
          refine ls_nil ?_
          refine block_normal ?_
          refine then_normal ?_
          refine fr_eq (b := ⟨#[x0, x30, x2, undef, undef, undef, x33, (.int .i64 0), undef, x23, x29, x30, x1, x13, x13, (D 0), (D 1), x17, x2, x19, x20, x21, x22, x23, x28, x0, x1_2, x23, x28, x29, x30, x6, x29, x33, x30, (D_2 17), undef, undef], []⟩) (by kernel_rfl) ?_
          refine lwp_list ?_
          refine ls_p (d := some 35) (by kernel_rfl) (by kernel_rfl) (p_add (by kernel_rfl) (by kernel_rfl) H) (fun x35 H => ?_)
          refine ls_move (x := x35) (by kernel_rfl) (by kernel_rfl) ?_
          refine ls_nil ?_
          exact ⟨⟨(fun i => ([x23, x29, x30, x21, x22, x23, x28, x0, x1_2, x23, x28, x29, x30, x6, x29, x33, x30, x35]).getD i undef), x30, x33, x35, h_3, by kernel_rfl, HA_4, H.1⟩, loop_lt HA_4.heap HA_2.heap (by kernel_rfl) (by kernel_rfl) H.2⟩
        · refine wp_exit ?_
          refine then_exit ?_
          refine then_exit ?_
          refine block_exit ?_
          refine then_normal ?_
          refine fr_eq (b := ⟨#[x0, x1_2, x2, undef, undef, undef, x6, (.int .i64 0), undef, (D_2 0), (D_2 1), (D_2 2), x1, x13, x13, (D 0), (D 1), x17, x2, x19, x20, x21, (D_2 4), (D_2 5), (D_2 6), (D_2 7), (D_2 8), (D_2 9), (D_2 10), (D_2 11), (D_2 12), (D_2 13), (D_2 14), (D_2 15), (D_2 16), (D_2 17), undef, undef], []⟩) (by kernel_rfl) ?_
          refine wp_seq ?_
          refine lwp_list ?_
          refine ls_move (x := x6) (by kernel_rfl) (by kernel_rfl) ?_
          refine ls_move (x := x1_2) (by kernel_rfl) (by kernel_rfl) ?_
          refine ls_assign (x := x6) (by kernel_rfl) (by kernel_rfl) ?_
          refine ls_assign (x := x1_2) (by kernel_rfl) (by kernel_rfl) ?_
          refine ls_nil ?_
          refine then_normal ?_
          refine fr_eq (b := ⟨#[x0, x1_2, x2, undef, undef, undef, x6, x1_2, undef, (D_2 0), (D_2 1), (D_2 2), x1, x13, x13, (D 0), (D 1), x17, x2, x19, x20, x21, (D_2 4), (D_2 5), (D_2 6), (D_2 7), (D_2 8), (D_2 9), (D_2 10), (D_2 11), (D_2 12), (D_2 13), (D_2 14), (D_2 15), (D_2 16), (D_2 17), x6, x1_2], []⟩) (by kernel_rfl) ?_
          refine wp_ret ?_
          exact end2 (Try.results31) (by kernel_rfl) (by kernel_rfl) (by kernel_rfl) HA_2 H _ (.inr rfl)

end Go.Proofs.Ythhpieidlpjbmaa
