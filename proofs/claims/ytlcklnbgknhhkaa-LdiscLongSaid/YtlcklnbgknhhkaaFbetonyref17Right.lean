/- The shallow reading of one function, and that the function does it. Written by a program. -/
import Derived.Test.YtlcklnbgknhhkaaFnC
set_option linter.unusedVariables false
namespace Go.Proofs.Ytlcklnbgknhhkaa
open Go Go.HW

def betonyref17_Right_l1 (R : Value → Heap → Prop) (x1 : Value) (next : Value → Heap → Prop) (x3 : Value) (h_1 : Heap) : Prop :=
  sLt x3 (.int .i64 12) fun x5 =>
  sIf x5 (sOff x1 3 fun x9 =>
  sIxA x9 x3 12 1 fun x10 =>
  sLd h_1 x10 fun x11 =>
  sLt x11 (.int .i64 0) fun x12 =>
  sOr x12 (fun k =>
  sOff x1 3 fun x15 =>
  sIxA x15 x3 12 1 fun x16 =>
  sLd h_1 x16 fun x17 =>
  sGt x17 (.int .i64 255) fun x18 =>
  k x18) fun x19 =>
  sIf x19 (R (.bool false) h_1) (sAdd .i64 x3 (.int .i64 1) fun x7 =>
  next x7 h_1)) (sOff x1 0 fun x20 =>
  sLd h_1 x20 fun x21 =>
  sGe x21 (.int .i64 0) fun x22 =>
  sAnd x22 (fun k_9 =>
  sOff x1 0 fun x24 =>
  sLd h_1 x24 fun x25 =>
  sLe x25 (.int .i64 127) fun x26 =>
  k_9 x26) fun x27 =>
  sAnd x27 (fun k_8 =>
  sOff x1 1 fun x29 =>
  sLd h_1 x29 fun x30 =>
  sGe x30 (.int .i64 0) fun x31 =>
  k_8 x31) fun x32 =>
  sAnd x32 (fun k_7 =>
  sOff x1 1 fun x34 =>
  sLd h_1 x34 fun x35 =>
  sLe x35 (.int .i64 63) fun x36 =>
  k_7 x36) fun x37 =>
  sAnd x37 (fun k_6 =>
  sOff x1 2 fun x39 =>
  sLd h_1 x39 fun x40 =>
  sGe x40 (.int .i64 0) fun x41 =>
  k_6 x41) fun x42 =>
  sAnd x42 (fun k_5 =>
  sOff x1 2 fun x44 =>
  sLd h_1 x44 fun x45 =>
  sLe x45 (.int .i64 1023) fun x46 =>
  k_5 x46) fun x47 =>
  sAnd x47 (fun k_4 =>
  sOff x1 15 fun x49 =>
  sLd h_1 x49 fun x50 =>
  sGe x50 (.int .i64 0) fun x51 =>
  k_4 x51) fun x52 =>
  sAnd x52 (fun k_3 =>
  sOff x1 15 fun x54 =>
  sLd h_1 x54 fun x55 =>
  sLe x55 (.int .i64 255) fun x56 =>
  k_3 x56) fun x57 =>
  sAnd x57 (fun k_2 =>
  sOff x1 16 fun x59 =>
  sLd h_1 x59 fun x60 =>
  sGe x60 (.int .i64 0) fun x61 =>
  k_2 x61) fun x62 =>
  sAnd x62 (fun k_1 =>
  sOff x1 16 fun x64 =>
  sLd h_1 x64 fun x65 =>
  sLe x65 (.int .i64 255) fun x66 =>
  k_1 x66) fun x67 =>
  R x67 h_1)
def betonyref17_Right_S (x0 : Value) (h : Heap) (R : Value → Heap → Prop) : Prop :=
  sBox h x0 28 fun x1 h => 
  sLoop (S := Value) (fun nxt s h => betonyref17_Right_l1 R x1 (fun x3' h => nxt x3' h) s h) (.int .i64 0) h
set_option maxRecDepth 100000 in
theorem betonyref17_Right_runs {x0 : Value} {h : Heap} {R : Value → Heap → Prop} (H : betonyref17_Right_S x0 h R) : betonyref17_Right_c x0 h R := by
  unfold betonyref17_Right_S at H
  refine runs_of (b := ⟨([x0, undef, undef, undef, undef, undef, undef, undef, undef, undef, undef, undef, undef, undef, undef, undef, undef, undef, undef, undef, undef, undef, undef, undef, undef, undef, undef, undef, undef, undef, undef, undef, undef, undef, undef, undef, undef, undef, undef, undef, undef, undef, undef, undef, undef, undef, undef, undef, undef, undef] ++ [undef, undef, undef, undef, undef, undef, undef, undef, undef, undef, undef, undef, undef, undef, undef, undef, undef, undef]).toArray, []⟩) Try.call22 Try.func22 rfl (by kernel_rfl) (fun w0 HA => ?_)
  refine wp_seq ?_
  refine lwp_list ?_
  refine ls_d (d := some 1) (by kernel_rfl) (by kernel_rfl) HA (d_box (by kernel_rfl) H) (fun x1 h w H HA => ?_)
  refine ls_assign (x := (.bool false)) (by kernel_rfl) (by kernel_rfl) ?_
  refine ls_nil ?_
  refine then_normal ?_
  refine fr_eq (b := ⟨([x0, x1, (.bool false), undef, undef, undef, undef, undef, undef, undef, undef, undef, undef, undef, undef, undef, undef, undef, undef, undef, undef, undef, undef, undef, undef, undef, undef, undef, undef, undef, undef, undef, undef, undef, undef, undef, undef, undef, undef, undef, undef, undef, undef, undef, undef, undef, undef, undef, undef, undef] ++ [undef, undef, undef, undef, undef, undef, undef, undef, undef, undef, undef, undef, undef, undef, undef, undef, undef, undef]).toArray, []⟩) (by kernel_rfl) ?_
  refine wp_seq ?_
  refine wp_seq ?_
  refine lwp_list ?_
  refine ls_assign (x := (.int .i64 0)) (by kernel_rfl) (by kernel_rfl) ?_
  refine ls_nil ?_
  refine then_normal ?_
  refine fr_eq (b := ⟨([x0, x1, (.bool false), (.int .i64 0), undef, undef, undef, undef, undef, undef, undef, undef, undef, undef, undef, undef, undef, undef, undef, undef, undef, undef, undef, undef, undef, undef, undef, undef, undef, undef, undef, undef, undef, undef, undef, undef, undef, undef, undef, undef, undef, undef, undef, undef, undef, undef, undef, undef, undef, undef] ++ [undef, undef, undef, undef, undef, undef, undef, undef, undef, undef, undef, undef, undef, undef, undef, undef, undef, undef]).toArray, []⟩) (by kernel_rfl) ?_
  refine wp_block ?_
  obtain ⟨I, m, H0, HB⟩ := H
  refine wp_loop (fun a w => ∃ (D : Nat → Value) (x3 : Value) (h_1 : Heap), a = ⟨([x0, x1, (D 0), x3, (D 1), (D 2), (D 3), (D 4), (D 5), (D 6), (D 7), (D 8), (D 9), (D 10), (D 11), (D 12), (D 13), (D 14), (D 15), (D 16), undef, undef, undef, undef, undef, undef, undef, undef, undef, undef, undef, undef, undef, undef, undef, undef, undef, undef, undef, undef, undef, undef, undef, undef, undef, undef, undef, undef, undef, undef] ++ [undef, undef, undef, undef, undef, undef, undef, undef, undef, undef, undef, undef, undef, undef, undef, undef, undef, undef]).toArray, []⟩ ∧ At w0 w h_1 ∧ I x3 h_1) (fun a w => m (a.tmps.getD 3 undef) w.heap) ?_ ?_
  · exact ⟨(fun i => ([(.bool false), undef, undef, undef, undef, undef, undef, undef, undef, undef, undef, undef, undef, undef, undef, undef, undef]).getD i undef), (.int .i64 0), h, by kernel_rfl, HA, H0⟩
  · rintro _ w_1 ⟨D, x3, h_1, rfl, HA_1, HI⟩
    have H : betonyref17_Right_l1 R x1 (fun x3' h' => I x3' h' ∧ m x3' h' < m x3 h_1) x3 h_1 := HB x3 h_1 HI
    clear HB H0 HI
    unfold betonyref17_Right_l1 at H
    refine wp_seq ?_
    refine wp_seq ?_
    refine lwp_list ?_
    refine ls_move (x := x3) (by kernel_rfl) (by kernel_rfl) ?_
    refine ls_p (d := some 5) (by kernel_rfl) (by kernel_rfl) (p_sLt (by kernel_rfl) (by kernel_rfl) H) (fun x5 H => ?_)
    refine ls_nil ?_
    refine then_normal ?_
    refine fr_eq (b := ⟨([x0, x1, (D 0), x3, x3, x5, (D 3), (D 4), (D 5), (D 6), (D 7), (D 8), (D 9), (D 10), (D 11), (D 12), (D 13), (D 14), (D 15), (D 16), undef, undef, undef, undef, undef, undef, undef, undef, undef, undef, undef, undef, undef, undef, undef, undef, undef, undef, undef, undef, undef, undef, undef, undef, undef, undef, undef, undef, undef, undef] ++ [undef, undef, undef, undef, undef, undef, undef, undef, undef, undef, undef, undef, undef, undef, undef, undef, undef, undef]).toArray, []⟩) (by kernel_rfl) ?_
    refine wp_if rfl H (fun H => ?_) (fun H => ?_)
    · refine wp_skip ?_
      refine then_normal ?_
      refine fr_eq (b := ⟨([x0, x1, (D 0), x3, x3, x5, (D 3), (D 4), (D 5), (D 6), (D 7), (D 8), (D 9), (D 10), (D 11), (D 12), (D 13), (D 14), (D 15), (D 16), undef, undef, undef, undef, undef, undef, undef, undef, undef, undef, undef, undef, undef, undef, undef, undef, undef, undef, undef, undef, undef, undef, undef, undef, undef, undef, undef, undef, undef, undef] ++ [undef, undef, undef, undef, undef, undef, undef, undef, undef, undef, undef, undef, undef, undef, undef, undef, undef, undef]).toArray, []⟩) (by kernel_rfl) ?_
      refine wp_seq ?_
      refine wp_block ?_
      refine wp_seq ?_
      refine lwp_list ?_
      refine ls_move (x := x3) (by kernel_rfl) (by kernel_rfl) ?_
      refine ls_p (d := some 9) (by kernel_rfl) (by kernel_rfl) (p_off Try.underlying28 rfl (fun w => ⟨_, Try.sizeOf26 w⟩) rfl (by kernel_rfl) H) (fun x9 H => ?_)
      refine ls_p (d := some 10) (by kernel_rfl) (by kernel_rfl) (p_ixa Try.underlying26 Try.sizeOf3 (by kernel_rfl) (by kernel_rfl) H) (fun x10 H => ?_)
      refine ls_y (d := some 11) (by kernel_rfl) (by kernel_rfl) HA_1 (y_ld Try.isAgg3 (by kernel_rfl) H) (fun x11 H => ?_)
      refine ls_p (d := some 12) (by kernel_rfl) (by kernel_rfl) (p_sLt (by kernel_rfl) (by kernel_rfl) H) (fun x12 H => ?_)
      refine ls_move (x := x12) (by kernel_rfl) (by kernel_rfl) ?_
      refine ls_fr (b := ⟨([x0, x1, (D 0), x3, x3, x5, (D 3), (D 4), x3, x9, x10, x11, x12, x12, (D 11), (D 12), (D 13), (D 14), (D 15), (D 16), undef, undef, undef, undef, undef, undef, undef, undef, undef, undef, undef, undef, undef, undef, undef, undef, undef, undef, undef, undef, undef, undef, undef, undef, undef, undef, undef, undef, undef, undef] ++ [undef, undef, undef, undef, undef, undef, undef, undef, undef, undef, undef, undef, undef, undef, undef, undef, undef, undef]).toArray, []⟩) (by kernel_rfl) ?_
      refine ls_or [(), (), (), (), (), ()] (fun K a w => ∃ (D_1 : Nat → Value) (x19 : Value), a = ⟨([x0, x1, (D 0), x3, x3, x5, (D 3), (D 4), x3, x9, x10, x11, x12, x12, (D_1 0), (D_1 1), (D_1 2), (D_1 3), (D_1 4), x19, undef, undef, undef, undef, undef, undef, undef, undef, undef, undef, undef, undef, undef, undef, undef, undef, undef, undef, undef, undef, undef, undef, undef, undef, undef, undef, undef, undef, undef, undef] ++ [undef, undef, undef, undef, undef, undef, undef, undef, undef, undef, undef, undef, undef, undef, undef, undef, undef, undef]).toArray, []⟩ ∧ At w0 w h_1 ∧ K x19) H (fun hb H => ?_) (fun hb H => ?_) ?_
      · refine ls_move (x := x3) (by rw [hb]; kernel_rfl) (by kernel_rfl) ?_
        refine ls_p (d := some 15) (by kernel_rfl) (by rw [hb]; kernel_rfl) (p_off Try.underlying28 rfl (fun w => ⟨_, Try.sizeOf26 w⟩) rfl (by kernel_rfl) H) (fun x15 H => ?_)
        refine ls_p (d := some 16) (by kernel_rfl) (by rw [hb]; kernel_rfl) (p_ixa Try.underlying26 Try.sizeOf3 (by kernel_rfl) (by kernel_rfl) H) (fun x16 H => ?_)
        refine ls_y (d := some 17) (by kernel_rfl) (by rw [hb]; kernel_rfl) HA_1 (y_ld Try.isAgg3 (by kernel_rfl) H) (fun x17 H => ?_)
        refine ls_p (d := some 18) (by kernel_rfl) (by rw [hb]; kernel_rfl) (p_sGt (by kernel_rfl) (by kernel_rfl) H) (fun x18 H => ?_)
        refine ls_pick_f (y := x18) (by kernel_rfl) (by rw [hb]; kernel_rfl) (by kernel_rfl) ?_
        refine ls_nil ?_
        refine then_normal ?_
        exact ⟨(fun i => ([x3, x15, x16, x17, x18]).getD i undef), x18, by kernel_rfl, HA_1, H⟩
      · refine ls_skip (d := some 14) (by kernel_rfl) (by rw [hb]; kernel_rfl) ?_
        refine ls_skip (d := some 15) (by kernel_rfl) (by rw [hb]; kernel_rfl) ?_
        refine ls_skip (d := some 16) (by kernel_rfl) (by rw [hb]; kernel_rfl) ?_
        refine ls_skip (d := some 17) (by kernel_rfl) (by rw [hb]; kernel_rfl) ?_
        refine ls_skip (d := some 18) (by kernel_rfl) (by rw [hb]; kernel_rfl) ?_
        refine ls_pick_t (x := (.bool true)) (by kernel_rfl) (by rw [hb]; kernel_rfl) (by kernel_rfl) ?_
        refine ls_nil ?_
        refine then_normal ?_
        exact ⟨(fun i => ([undef, undef, undef, undef, undef]).getD i undef), (.bool true), by kernel_rfl, HA_1, H⟩
      · rintro _ w_2 ⟨D_1, x19, rfl, HA_2, H⟩
        refine ls_nil ?_
        refine then_normal ?_
        refine fr_eq (b := ⟨([x0, x1, (D 0), x3, x3, x5, (D 3), (D 4), x3, x9, x10, x11, x12, x12, (D_1 0), (D_1 1), (D_1 2), (D_1 3), (D_1 4), x19, undef, undef, undef, undef, undef, undef, undef, undef, undef, undef, undef, undef, undef, undef, undef, undef, undef, undef, undef, undef, undef, undef, undef, undef, undef, undef, undef, undef, undef, undef] ++ [undef, undef, undef, undef, undef, undef, undef, undef, undef, undef, undef, undef, undef, undef, undef, undef, undef, undef]).toArray, []⟩) (by kernel_rfl) ?_
        refine wp_if rfl H (fun H => ?_) (fun H => ?_)
        · refine wp_seq ?_
          refine lwp_list ?_
          refine ls_assign (x := (.bool false)) (by kernel_rfl) (by kernel_rfl) ?_
          refine ls_nil ?_
          refine then_normal ?_
          refine fr_eq (b := ⟨([x0, x1, (.bool false), x3, x3, x5, (D 3), (D 4), x3, x9, x10, x11, x12, x12, (D_1 0), (D_1 1), (D_1 2), (D_1 3), (D_1 4), x19, undef, undef, undef, undef, undef, undef, undef, undef, undef, undef, undef, undef, undef, undef, undef, undef, undef, undef, undef, undef, undef, undef, undef, undef, undef, undef, undef, undef, undef, undef] ++ [undef, undef, undef, undef, undef, undef, undef, undef, undef, undef, undef, undef, undef, undef, undef, undef, undef, undef]).toArray, []⟩) (by kernel_rfl) ?_
          refine wp_ret ?_
          refine block_ret ?_
          refine then_ret ?_
          refine then_ret ?_
          refine block_ret ?_
          refine then_ret ?_
          exact end1 (Try.results22) (by kernel_rfl) (by kernel_rfl) HA_2 H _ (.inr rfl)
        · refine wp_skip ?_
          refine block_normal ?_
          refine then_normal ?_
          refine fr_eq (b := ⟨([x0, x1, (D 0), x3, x3, x5, (D 3), (D 4), x3, x9, x10, x11, x12, x12, (D_1 0), (D_1 1), (D_1 2), (D_1 3), (D_1 4), x19, undef, undef, undef, undef, undef, undef, undef, undef, undef, undef, undef, undef, undef, undef, undef, undef, undef, undef, undef, undef, undef, undef, undef, undef, undef, undef, undef, undef, undef, undef] ++ [undef, undef, undef, undef, undef, undef, undef, undef, undef, undef, undef, undef, undef, undef, undef, undef, undef, undef]).toArray, []⟩) (by kernel_rfl) ?_
          refine lwp_list ?_
          refine ls_move (x := x3) (by kernel_rfl) (by kernel_rfl) ?_
          refine ls_p (d := some 7) (by kernel_rfl) (by kernel_rfl) (p_add (by kernel_rfl) (by kernel_rfl) H) (fun x7 H => ?_)
          refine ls_assign (x := x7) (by kernel_rfl) (by kernel_rfl) ?_
          refine ls_nil ?_
          exact ⟨⟨(fun i => ([(D 0), x3, x5, x3, x7, x3, x9, x10, x11, x12, x12, (D_1 0), (D_1 1), (D_1 2), (D_1 3), (D_1 4), x19]).getD i undef), x7, h_1, by kernel_rfl, HA_2, H.1⟩, loop_lt HA_2.heap HA_1.heap (by kernel_rfl) (by kernel_rfl) H.2⟩
    · refine wp_exit ?_
      refine then_exit ?_
      refine then_exit ?_
      refine block_exit ?_
      refine then_normal ?_
      refine fr_eq (b := ⟨([x0, x1, (D 0), x3, x3, x5, (D 3), (D 4), (D 5), (D 6), (D 7), (D 8), (D 9), (D 10), (D 11), (D 12), (D 13), (D 14), (D 15), (D 16), undef, undef, undef, undef, undef, undef, undef, undef, undef, undef, undef, undef, undef, undef, undef, undef, undef, undef, undef, undef, undef, undef, undef, undef, undef, undef, undef, undef, undef, undef] ++ [undef, undef, undef, undef, undef, undef, undef, undef, undef, undef, undef, undef, undef, undef, undef, undef, undef, undef]).toArray, []⟩) (by kernel_rfl) ?_
      refine wp_seq ?_
      refine lwp_list ?_
      refine ls_p (d := some 20) (by kernel_rfl) (by kernel_rfl) (p_off Try.underlying28 rfl (fun w => ⟨_, Try.sizeOf3 w⟩) rfl (by kernel_rfl) H) (fun x20 H => ?_)
      refine ls_y (d := some 21) (by kernel_rfl) (by kernel_rfl) HA_1 (y_ld Try.isAgg3 (by kernel_rfl) H) (fun x21 H => ?_)
      refine ls_p (d := some 22) (by kernel_rfl) (by kernel_rfl) (p_sGe (by kernel_rfl) (by kernel_rfl) H) (fun x22 H => ?_)
      refine ls_move (x := x22) (by kernel_rfl) (by kernel_rfl) ?_
      refine ls_and [(), (), (), ()] (fun K a w => ∃ (D_2 : Nat → Value) (x27 : Value), a = ⟨([x0, x1, (D 0), x3, x3, x5, (D 3), (D 4), (D 5), (D 6), (D 7), (D 8), (D 9), (D 10), (D 11), (D 12), (D 13), (D 14), (D 15), (D 16), x20, x21, x22, x22, (D_2 0), (D_2 1), (D_2 2), x27, undef, undef, undef, undef, undef, undef, undef, undef, undef, undef, undef, undef, undef, undef, undef, undef, undef, undef, undef, undef, undef, undef] ++ [undef, undef, undef, undef, undef, undef, undef, undef, undef, undef, undef, undef, undef, undef, undef, undef, undef, undef]).toArray, []⟩ ∧ At w0 w h_1 ∧ K x27) H (fun hb_9 H => ?_) (fun hb_9 H => ?_) ?_
      · refine ls_p (d := some 24) (by kernel_rfl) (by rw [hb_9]; kernel_rfl) (p_off Try.underlying28 rfl (fun w => ⟨_, Try.sizeOf3 w⟩) rfl (by kernel_rfl) H) (fun x24 H => ?_)
        refine ls_y (d := some 25) (by kernel_rfl) (by rw [hb_9]; kernel_rfl) HA_1 (y_ld Try.isAgg3 (by kernel_rfl) H) (fun x25 H => ?_)
        refine ls_fr (b := ⟨([x0, x1, (D 0), x3, x3, x5, (D 3), (D 4), (D 5), (D 6), (D 7), (D 8), (D 9), (D 10), (D 11), (D 12), (D 13), (D 14), (D 15), (D 16), x20, x21, x22, x22, x24, x25, undef, undef, undef, undef, undef, undef, undef, undef, undef, undef, undef, undef, undef, undef, undef, undef, undef, undef, undef, undef, undef, undef, undef, undef] ++ [undef, undef, undef, undef, undef, undef, undef, undef, undef, undef, undef, undef, undef, undef, undef, undef, undef, undef]).toArray, []⟩) (by kernel_rfl) ?_
        refine ls_p (d := some 26) (by kernel_rfl) (by rw [hb_9]; kernel_rfl) (p_sLe (by kernel_rfl) (by kernel_rfl) H) (fun x26 H => ?_)
        refine ls_pick_t (x := x26) (by kernel_rfl) (by rw [hb_9]; kernel_rfl) (by kernel_rfl) ?_
        refine ls_nil ?_
        refine then_normal ?_
        exact ⟨(fun i => ([x24, x25, x26]).getD i undef), x26, by kernel_rfl, HA_1, H⟩
      · refine ls_skip (d := some 24) (by kernel_rfl) (by rw [hb_9]; kernel_rfl) ?_
        refine ls_skip (d := some 25) (by kernel_rfl) (by rw [hb_9]; kernel_rfl) ?_
        refine ls_fr (b := ⟨([x0, x1, (D 0), x3, x3, x5, (D 3), (D 4), (D 5), (D 6), (D 7), (D 8), (D 9), (D 10), (D 11), (D 12), (D 13), (D 14), (D 15), (D 16), x20, x21, x22, x22, undef, undef, undef, undef, undef, undef, undef, undef, undef, undef, undef, undef, undef, undef, undef, undef, undef, undef, undef, undef, undef, undef, undef, undef, undef, undef] ++ [undef, undef, undef, undef, undef, undef, undef, undef, undef, undef, undef, undef, undef, undef, undef, undef, undef, undef]).toArray, []⟩) (by kernel_rfl) ?_
        refine ls_skip (d := some 26) (by kernel_rfl) (by rw [hb_9]; kernel_rfl) ?_
        refine ls_pick_f (y := (.bool false)) (by kernel_rfl) (by rw [hb_9]; kernel_rfl) (by kernel_rfl) ?_
        refine ls_nil ?_
        refine then_normal ?_
        exact ⟨(fun i => ([undef, undef, undef]).getD i undef), (.bool false), by kernel_rfl, HA_1, H⟩
      · rintro _ w_3 ⟨D_2, x27, rfl, HA_3, H⟩
        refine ls_move (x := x27) (by kernel_rfl) (by kernel_rfl) ?_
        refine ls_and [(), (), (), ()] (fun K a w => ∃ (D_3 : Nat → Value) (x32 : Value), a = ⟨([x0, x1, (D 0), x3, x3, x5, (D 3), (D 4), (D 5), (D 6), (D 7), (D 8), (D 9), (D 10), (D 11), (D 12), (D 13), (D 14), (D 15), (D 16), x20, x21, x22, x22, (D_2 0), (D_2 1), (D_2 2), x27, x27, (D_3 0), (D_3 1), (D_3 2), x32, undef, undef, undef, undef, undef, undef, undef, undef, undef, undef, undef, undef, undef, undef, undef, undef, undef] ++ [undef, undef, undef, undef, undef, undef, undef, undef, undef, undef, undef, undef, undef, undef, undef, undef, undef, undef]).toArray, []⟩ ∧ At w0 w h_1 ∧ K x32) H (fun hb_8 H => ?_) (fun hb_8 H => ?_) ?_
        · refine ls_p (d := some 29) (by kernel_rfl) (by rw [hb_8]; kernel_rfl) (p_off Try.underlying28 rfl (fun w => ⟨_, Try.sizeOf3 w⟩) rfl (by kernel_rfl) H) (fun x29 H => ?_)
          refine ls_y (d := some 30) (by kernel_rfl) (by rw [hb_8]; kernel_rfl) HA_3 (y_ld Try.isAgg3 (by kernel_rfl) H) (fun x30 H => ?_)
          refine ls_p (d := some 31) (by kernel_rfl) (by rw [hb_8]; kernel_rfl) (p_sGe (by kernel_rfl) (by kernel_rfl) H) (fun x31 H => ?_)
          refine ls_pick_t (x := x31) (by kernel_rfl) (by rw [hb_8]; kernel_rfl) (by kernel_rfl) ?_
          refine ls_nil ?_
          refine then_normal ?_
          exact ⟨(fun i => ([x29, x30, x31]).getD i undef), x31, by kernel_rfl, HA_3, H⟩
        · refine ls_skip (d := some 29) (by kernel_rfl) (by rw [hb_8]; kernel_rfl) ?_
          refine ls_skip (d := some 30) (by kernel_rfl) (by rw [hb_8]; kernel_rfl) ?_
          refine ls_skip (d := some 31) (by kernel_rfl) (by rw [hb_8]; kernel_rfl) ?_
          refine ls_pick_f (y := (.bool false)) (by kernel_rfl) (by rw [hb_8]; kernel_rfl) (by kernel_rfl) ?_
          refine ls_nil ?_
          refine then_normal ?_
          exact ⟨(fun i => ([undef, undef, undef]).getD i undef), (.bool false), by kernel_rfl, HA_3, H⟩
        · rintro _ w_4 ⟨D_3, x32, rfl, HA_4, H⟩
          refine ls_move (x := x32) (by kernel_rfl) (by kernel_rfl) ?_
          refine ls_and [(), (), (), ()] (fun K a w => ∃ (D_4 : Nat → Value) (x37 : Value), a = ⟨([x0, x1, (D 0), x3, x3, x5, (D 3), (D 4), (D 5), (D 6), (D 7), (D 8), (D 9), (D 10), (D 11), (D 12), (D 13), (D 14), (D 15), (D 16), x20, x21, x22, x22, (D_2 0), (D_2 1), (D_2 2), x27, x27, (D_3 0), (D_3 1), (D_3 2), x32, x32, (D_4 0), (D_4 1), (D_4 2), x37, undef, undef, undef, undef, undef, undef, undef, undef, undef, undef, undef, undef] ++ [undef, undef, undef, undef, undef, undef, undef, undef, undef, undef, undef, undef, undef, undef, undef, undef, undef, undef]).toArray, []⟩ ∧ At w0 w h_1 ∧ K x37) H (fun hb_7 H => ?_) (fun hb_7 H => ?_) ?_
          · refine ls_p (d := some 34) (by kernel_rfl) (by rw [hb_7]; kernel_rfl) (p_off Try.underlying28 rfl (fun w => ⟨_, Try.sizeOf3 w⟩) rfl (by kernel_rfl) H) (fun x34 H => ?_)
            refine ls_y (d := some 35) (by kernel_rfl) (by rw [hb_7]; kernel_rfl) HA_4 (y_ld Try.isAgg3 (by kernel_rfl) H) (fun x35 H => ?_)
            refine ls_p (d := some 36) (by kernel_rfl) (by rw [hb_7]; kernel_rfl) (p_sLe (by kernel_rfl) (by kernel_rfl) H) (fun x36 H => ?_)
            refine ls_pick_t (x := x36) (by kernel_rfl) (by rw [hb_7]; kernel_rfl) (by kernel_rfl) ?_
            refine ls_nil ?_
            refine then_normal ?_
            exact ⟨(fun i => ([x34, x35, x36]).getD i undef), x36, by kernel_rfl, HA_4, H⟩
          · refine ls_skip (d := some 34) (by kernel_rfl) (by rw [hb_7]; kernel_rfl) ?_
            refine ls_skip (d := some 35) (by kernel_rfl) (by rw [hb_7]; kernel_rfl) ?_
            refine ls_skip (d := some 36) (by kernel_rfl) (by rw [hb_7]; kernel_rfl) ?_
            refine ls_pick_f (y := (.bool false)) (by kernel_rfl) (by rw [hb_7]; kernel_rfl) (by kernel_rfl) ?_
            refine ls_nil ?_
            refine then_normal ?_
            exact ⟨(fun i => ([undef, undef, undef]).getD i undef), (.bool false), by kernel_rfl, HA_4, H⟩
          · rintro _ w_5 ⟨D_4, x37, rfl, HA_5, H⟩
            refine ls_move (x := x37) (by kernel_rfl) (by kernel_rfl) ?_
            refine ls_and [(), (), (), ()] (fun K a w => ∃ (D_5 : Nat → Value) (x42 : Value), a = ⟨([x0, x1, (D 0), x3, x3, x5, (D 3), (D 4), (D 5), (D 6), (D 7), (D 8), (D 9), (D 10), (D 11), (D 12), (D 13), (D 14), (D 15), (D 16), x20, x21, x22, x22, (D_2 0), (D_2 1), (D_2 2), x27, x27, (D_3 0), (D_3 1), (D_3 2), x32, x32, (D_4 0), (D_4 1), (D_4 2), x37, x37, (D_5 0), (D_5 1), (D_5 2), x42, undef, undef, undef, undef, undef, undef, undef] ++ [undef, undef, undef, undef, undef, undef, undef, undef, undef, undef, undef, undef, undef, undef, undef, undef, undef, undef]).toArray, []⟩ ∧ At w0 w h_1 ∧ K x42) H (fun hb_6 H => ?_) (fun hb_6 H => ?_) ?_
            · refine ls_p (d := some 39) (by kernel_rfl) (by rw [hb_6]; kernel_rfl) (p_off Try.underlying28 rfl (fun w => ⟨_, Try.sizeOf3 w⟩) rfl (by kernel_rfl) H) (fun x39 H => ?_)
              refine ls_y (d := some 40) (by kernel_rfl) (by rw [hb_6]; kernel_rfl) HA_5 (y_ld Try.isAgg3 (by kernel_rfl) H) (fun x40 H => ?_)
              refine ls_p (d := some 41) (by kernel_rfl) (by rw [hb_6]; kernel_rfl) (p_sGe (by kernel_rfl) (by kernel_rfl) H) (fun x41 H => ?_)
              refine ls_pick_t (x := x41) (by kernel_rfl) (by rw [hb_6]; kernel_rfl) (by kernel_rfl) ?_
              refine ls_nil ?_
              refine then_normal ?_
              exact ⟨(fun i => ([x39, x40, x41]).getD i undef), x41, by kernel_rfl, HA_5, H⟩
            · refine ls_skip (d := some 39) (by kernel_rfl) (by rw [hb_6]; kernel_rfl) ?_
              refine ls_skip (d := some 40) (by kernel_rfl) (by rw [hb_6]; kernel_rfl) ?_
              refine ls_skip (d := some 41) (by kernel_rfl) (by rw [hb_6]; kernel_rfl) ?_
              refine ls_pick_f (y := (.bool false)) (by kernel_rfl) (by rw [hb_6]; kernel_rfl) (by kernel_rfl) ?_
              refine ls_nil ?_
              refine then_normal ?_
              exact ⟨(fun i => ([undef, undef, undef]).getD i undef), (.bool false), by kernel_rfl, HA_5, H⟩
            · rintro _ w_6 ⟨D_5, x42, rfl, HA_6, H⟩
              refine ls_move (x := x42) (by kernel_rfl) (by kernel_rfl) ?_
              refine ls_and [(), (), (), ()] (fun K a w => ∃ (D_6 : Nat → Value) (x47 : Value), a = ⟨([x0, x1, (D 0), x3, x3, x5, (D 3), (D 4), (D 5), (D 6), (D 7), (D 8), (D 9), (D 10), (D 11), (D 12), (D 13), (D 14), (D 15), (D 16), x20, x21, x22, x22, (D_2 0), (D_2 1), (D_2 2), x27, x27, (D_3 0), (D_3 1), (D_3 2), x32, x32, (D_4 0), (D_4 1), (D_4 2), x37, x37, (D_5 0), (D_5 1), (D_5 2), x42, x42, (D_6 0), (D_6 1), (D_6 2), x47, undef, undef] ++ [undef, undef, undef, undef, undef, undef, undef, undef, undef, undef, undef, undef, undef, undef, undef, undef, undef, undef]).toArray, []⟩ ∧ At w0 w h_1 ∧ K x47) H (fun hb_5 H => ?_) (fun hb_5 H => ?_) ?_
              · refine ls_p (d := some 44) (by kernel_rfl) (by rw [hb_5]; kernel_rfl) (p_off Try.underlying28 rfl (fun w => ⟨_, Try.sizeOf3 w⟩) rfl (by kernel_rfl) H) (fun x44 H => ?_)
                refine ls_y (d := some 45) (by kernel_rfl) (by rw [hb_5]; kernel_rfl) HA_6 (y_ld Try.isAgg3 (by kernel_rfl) H) (fun x45 H => ?_)
                refine ls_p (d := some 46) (by kernel_rfl) (by rw [hb_5]; kernel_rfl) (p_sLe (by kernel_rfl) (by kernel_rfl) H) (fun x46 H => ?_)
                refine ls_pick_t (x := x46) (by kernel_rfl) (by rw [hb_5]; kernel_rfl) (by kernel_rfl) ?_
                refine ls_nil ?_
                refine then_normal ?_
                exact ⟨(fun i => ([x44, x45, x46]).getD i undef), x46, by kernel_rfl, HA_6, H⟩
              · refine ls_skip (d := some 44) (by kernel_rfl) (by rw [hb_5]; kernel_rfl) ?_
                refine ls_skip (d := some 45) (by kernel_rfl) (by rw [hb_5]; kernel_rfl) ?_
                refine ls_skip (d := some 46) (by kernel_rfl) (by rw [hb_5]; kernel_rfl) ?_
                refine ls_pick_f (y := (.bool false)) (by kernel_rfl) (by rw [hb_5]; kernel_rfl) (by kernel_rfl) ?_
                refine ls_nil ?_
                refine then_normal ?_
                exact ⟨(fun i => ([undef, undef, undef]).getD i undef), (.bool false), by kernel_rfl, HA_6, H⟩
              · rintro _ w_7 ⟨D_6, x47, rfl, HA_7, H⟩
                refine ls_move (x := x47) (by kernel_rfl) (by kernel_rfl) ?_
                refine ls_and [(), (), (), ()] (fun K a w => ∃ (D_7 : Nat → Value) (x52 : Value), a = ⟨([x0, x1, (D 0), x3, x3, x5, (D 3), (D 4), (D 5), (D 6), (D 7), (D 8), (D 9), (D 10), (D 11), (D 12), (D 13), (D 14), (D 15), (D 16), x20, x21, x22, x22, (D_2 0), (D_2 1), (D_2 2), x27, x27, (D_3 0), (D_3 1), (D_3 2), x32, x32, (D_4 0), (D_4 1), (D_4 2), x37, x37, (D_5 0), (D_5 1), (D_5 2), x42, x42, (D_6 0), (D_6 1), (D_6 2), x47, x47, (D_7 0)] ++ [(D_7 1), (D_7 2), x52, undef, undef, undef, undef, undef, undef, undef, undef, undef, undef, undef, undef, undef, undef, undef]).toArray, []⟩ ∧ At w0 w h_1 ∧ K x52) H (fun hb_4 H => ?_) (fun hb_4 H => ?_) ?_
                · refine ls_p (d := some 49) (by kernel_rfl) (by rw [hb_4]; kernel_rfl) (p_off Try.underlying28 rfl (fun w => ⟨_, Try.sizeOf3 w⟩) rfl (by kernel_rfl) H) (fun x49 H => ?_)
                  refine ls_y (d := some 50) (by kernel_rfl) (by rw [hb_4]; kernel_rfl) HA_7 (y_ld Try.isAgg3 (by kernel_rfl) H) (fun x50 H => ?_)
                  refine ls_p (d := some 51) (by kernel_rfl) (by rw [hb_4]; kernel_rfl) (p_sGe (by kernel_rfl) (by kernel_rfl) H) (fun x51 H => ?_)
                  refine ls_pick_t (x := x51) (by kernel_rfl) (by rw [hb_4]; kernel_rfl) (by kernel_rfl) ?_
                  refine ls_nil ?_
                  refine then_normal ?_
                  exact ⟨(fun i => ([x49, x50, x51]).getD i undef), x51, by kernel_rfl, HA_7, H⟩
                · refine ls_skip (d := some 49) (by kernel_rfl) (by rw [hb_4]; kernel_rfl) ?_
                  refine ls_skip (d := some 50) (by kernel_rfl) (by rw [hb_4]; kernel_rfl) ?_
                  refine ls_skip (d := some 51) (by kernel_rfl) (by rw [hb_4]; kernel_rfl) ?_
                  refine ls_pick_f (y := (.bool false)) (by kernel_rfl) (by rw [hb_4]; kernel_rfl) (by kernel_rfl) ?_
                  refine ls_nil ?_
                  refine then_normal ?_
                  exact ⟨(fun i => ([undef, undef, undef]).getD i undef), (.bool false), by kernel_rfl, HA_7, H⟩
                · rintro _ w_8 ⟨D_7, x52, rfl, HA_8, H⟩
                  refine ls_move (x := x52) (by kernel_rfl) (by kernel_rfl) ?_
                  refine ls_and [(), (), (), ()] (fun K a w => ∃ (D_8 : Nat → Value) (x57 : Value), a = ⟨([x0, x1, (D 0), x3, x3, x5, (D 3), (D 4), (D 5), (D 6), (D 7), (D 8), (D 9), (D 10), (D 11), (D 12), (D 13), (D 14), (D 15), (D 16), x20, x21, x22, x22, (D_2 0), (D_2 1), (D_2 2), x27, x27, (D_3 0), (D_3 1), (D_3 2), x32, x32, (D_4 0), (D_4 1), (D_4 2), x37, x37, (D_5 0), (D_5 1), (D_5 2), x42, x42, (D_6 0), (D_6 1), (D_6 2), x47, x47, (D_7 0)] ++ [(D_7 1), (D_7 2), x52, x52, (D_8 0), (D_8 1), (D_8 2), x57, undef, undef, undef, undef, undef, undef, undef, undef, undef, undef]).toArray, []⟩ ∧ At w0 w h_1 ∧ K x57) H (fun hb_3 H => ?_) (fun hb_3 H => ?_) ?_
                  · refine ls_p (d := some 54) (by kernel_rfl) (by rw [hb_3]; kernel_rfl) (p_off Try.underlying28 rfl (fun w => ⟨_, Try.sizeOf3 w⟩) rfl (by kernel_rfl) H) (fun x54 H => ?_)
                    refine ls_y (d := some 55) (by kernel_rfl) (by rw [hb_3]; kernel_rfl) HA_8 (y_ld Try.isAgg3 (by kernel_rfl) H) (fun x55 H => ?_)
                    refine ls_p (d := some 56) (by kernel_rfl) (by rw [hb_3]; kernel_rfl) (p_sLe (by kernel_rfl) (by kernel_rfl) H) (fun x56 H => ?_)
                    refine ls_pick_t (x := x56) (by kernel_rfl) (by rw [hb_3]; kernel_rfl) (by kernel_rfl) ?_
                    refine ls_nil ?_
                    refine then_normal ?_
                    exact ⟨(fun i => ([x54, x55, x56]).getD i undef), x56, by kernel_rfl, HA_8, H⟩
                  · refine ls_skip (d := some 54) (by kernel_rfl) (by rw [hb_3]; kernel_rfl) ?_
                    refine ls_skip (d := some 55) (by kernel_rfl) (by rw [hb_3]; kernel_rfl) ?_
                    refine ls_skip (d := some 56) (by kernel_rfl) (by rw [hb_3]; kernel_rfl) ?_
                    refine ls_pick_f (y := (.bool false)) (by kernel_rfl) (by rw [hb_3]; kernel_rfl) (by kernel_rfl) ?_
                    refine ls_nil ?_
                    refine then_normal ?_
                    exact ⟨(fun i => ([undef, undef, undef]).getD i undef), (.bool false), by kernel_rfl, HA_8, H⟩
                  · rintro _ w_9 ⟨D_8, x57, rfl, HA_9, H⟩
                    refine ls_move (x := x57) (by kernel_rfl) (by kernel_rfl) ?_
                    refine ls_and [(), (), (), ()] (fun K a w => ∃ (D_9 : Nat → Value) (x62 : Value), a = ⟨([x0, x1, (D 0), x3, x3, x5, (D 3), (D 4), (D 5), (D 6), (D 7), (D 8), (D 9), (D 10), (D 11), (D 12), (D 13), (D 14), (D 15), (D 16), x20, x21, x22, x22, (D_2 0), (D_2 1), (D_2 2), x27, x27, (D_3 0), (D_3 1), (D_3 2), x32, x32, (D_4 0), (D_4 1), (D_4 2), x37, x37, (D_5 0), (D_5 1), (D_5 2), x42, x42, (D_6 0), (D_6 1), (D_6 2), x47, x47, (D_7 0)] ++ [(D_7 1), (D_7 2), x52, x52, (D_8 0), (D_8 1), (D_8 2), x57, x57, (D_9 0), (D_9 1), (D_9 2), x62, undef, undef, undef, undef, undef]).toArray, []⟩ ∧ At w0 w h_1 ∧ K x62) H (fun hb_2 H => ?_) (fun hb_2 H => ?_) ?_
                    · refine ls_p (d := some 59) (by kernel_rfl) (by rw [hb_2]; kernel_rfl) (p_off Try.underlying28 rfl (fun w => ⟨_, Try.sizeOf3 w⟩) rfl (by kernel_rfl) H) (fun x59 H => ?_)
                      refine ls_y (d := some 60) (by kernel_rfl) (by rw [hb_2]; kernel_rfl) HA_9 (y_ld Try.isAgg3 (by kernel_rfl) H) (fun x60 H => ?_)
                      refine ls_p (d := some 61) (by kernel_rfl) (by rw [hb_2]; kernel_rfl) (p_sGe (by kernel_rfl) (by kernel_rfl) H) (fun x61 H => ?_)
                      refine ls_pick_t (x := x61) (by kernel_rfl) (by rw [hb_2]; kernel_rfl) (by kernel_rfl) ?_
                      refine ls_nil ?_
                      refine then_normal ?_
                      exact ⟨(fun i => ([x59, x60, x61]).getD i undef), x61, by kernel_rfl, HA_9, H⟩
                    · refine ls_skip (d := some 59) (by kernel_rfl) (by rw [hb_2]; kernel_rfl) ?_
                      refine ls_skip (d := some 60) (by kernel_rfl) (by rw [hb_2]; kernel_rfl) ?_
                      refine ls_skip (d := some 61) (by kernel_rfl) (by rw [hb_2]; kernel_rfl) ?_
                      refine ls_pick_f (y := (.bool false)) (by kernel_rfl) (by rw [hb_2]; kernel_rfl) (by kernel_rfl) ?_
                      refine ls_nil ?_
                      refine then_normal ?_
                      exact ⟨(fun i => ([undef, undef, undef]).getD i undef), (.bool false), by kernel_rfl, HA_9, H⟩
                    · rintro _ w_10 ⟨D_9, x62, rfl, HA_10, H⟩
                      refine ls_move (x := x62) (by kernel_rfl) (by kernel_rfl) ?_
                      refine ls_and [(), (), (), ()] (fun K a w => ∃ (D_10 : Nat → Value) (x67 : Value), a = ⟨([x0, x1, (D 0), x3, x3, x5, (D 3), (D 4), (D 5), (D 6), (D 7), (D 8), (D 9), (D 10), (D 11), (D 12), (D 13), (D 14), (D 15), (D 16), x20, x21, x22, x22, (D_2 0), (D_2 1), (D_2 2), x27, x27, (D_3 0), (D_3 1), (D_3 2), x32, x32, (D_4 0), (D_4 1), (D_4 2), x37, x37, (D_5 0), (D_5 1), (D_5 2), x42, x42, (D_6 0), (D_6 1), (D_6 2), x47, x47, (D_7 0)] ++ [(D_7 1), (D_7 2), x52, x52, (D_8 0), (D_8 1), (D_8 2), x57, x57, (D_9 0), (D_9 1), (D_9 2), x62, x62, (D_10 0), (D_10 1), (D_10 2), x67]).toArray, []⟩ ∧ At w0 w h_1 ∧ K x67) H (fun hb_1 H => ?_) (fun hb_1 H => ?_) ?_
                      · refine ls_p (d := some 64) (by kernel_rfl) (by rw [hb_1]; kernel_rfl) (p_off Try.underlying28 rfl (fun w => ⟨_, Try.sizeOf3 w⟩) rfl (by kernel_rfl) H) (fun x64 H => ?_)
                        refine ls_y (d := some 65) (by kernel_rfl) (by rw [hb_1]; kernel_rfl) HA_10 (y_ld Try.isAgg3 (by kernel_rfl) H) (fun x65 H => ?_)
                        refine ls_p (d := some 66) (by kernel_rfl) (by rw [hb_1]; kernel_rfl) (p_sLe (by kernel_rfl) (by kernel_rfl) H) (fun x66 H => ?_)
                        refine ls_pick_t (x := x66) (by kernel_rfl) (by rw [hb_1]; kernel_rfl) (by kernel_rfl) ?_
                        refine ls_nil ?_
                        refine then_normal ?_
                        exact ⟨(fun i => ([x64, x65, x66]).getD i undef), x66, by kernel_rfl, HA_10, H⟩
                      · refine ls_skip (d := some 64) (by kernel_rfl) (by rw [hb_1]; kernel_rfl) ?_
                        refine ls_skip (d := some 65) (by kernel_rfl) (by rw [hb_1]; kernel_rfl) ?_
                        refine ls_skip (d := some 66) (by kernel_rfl) (by rw [hb_1]; kernel_rfl) ?_
                        refine ls_pick_f (y := (.bool false)) (by kernel_rfl) (by rw [hb_1]; kernel_rfl) (by kernel_rfl) ?_
                        refine ls_nil ?_
                        refine then_normal ?_
                        exact ⟨(fun i => ([undef, undef, undef]).getD i undef), (.bool false), by kernel_rfl, HA_10, H⟩
                      · rintro _ w_11 ⟨D_10, x67, rfl, HA_11, H⟩
                        refine ls_assign (x := x67) (by kernel_rfl) (by kernel_rfl) ?_
                        refine ls_nil ?_
                        refine then_normal ?_
                        refine fr_eq (b := ⟨([x0, x1, x67, x3, x3, x5, (D 3), (D 4), (D 5), (D 6), (D 7), (D 8), (D 9), (D 10), (D 11), (D 12), (D 13), (D 14), (D 15), (D 16), x20, x21, x22, x22, (D_2 0), (D_2 1), (D_2 2), x27, x27, (D_3 0), (D_3 1), (D_3 2), x32, x32, (D_4 0), (D_4 1), (D_4 2), x37, x37, (D_5 0), (D_5 1), (D_5 2), x42, x42, (D_6 0), (D_6 1), (D_6 2), x47, x47, (D_7 0)] ++ [(D_7 1), (D_7 2), x52, x52, (D_8 0), (D_8 1), (D_8 2), x57, x57, (D_9 0), (D_9 1), (D_9 2), x62, x62, (D_10 0), (D_10 1), (D_10 2), x67]).toArray, []⟩) (by kernel_rfl) ?_
                        refine wp_ret ?_
                        exact end1 (Try.results22) (by kernel_rfl) (by kernel_rfl) HA_11 H _ (.inr rfl)

end Go.Proofs.Ytlcklnbgknhhkaa
