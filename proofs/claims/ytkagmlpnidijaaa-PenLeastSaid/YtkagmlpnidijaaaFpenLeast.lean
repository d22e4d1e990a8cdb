/- The shallow reading of one function, and that the function does it. Written by a program. -/
import Derived.Test.YtkagmlpnidijaaaFnC
set_option linter.unusedVariables false
namespace Go.Proofs.Ytkagmlpnidijaaa
open Go Go.HW

def pen_Least_j2 (next : Value → Value → Heap → Prop) (x4 x3_1 : Value) (h_4 : Heap) : Prop :=
  sAdd .i64 x4 (.int .i64 1) fun x13 =>
  next x3_1 x13 h_4
def pen_Least_l1 (R : Value → Heap → Prop) (x1 : Value) (next : Value → Value → Heap → Prop) (x3 x4 : Value) (h_3 : Heap) : Prop :=
  sLe x4 (.int .i64 9) fun x11 =>
  sIf x11 (pen_flag_c x4 h_3 fun x15 h_5 => 
  sNe x15 (.int .i64 0) fun x17 =>
  sAnd x17 (fun k =>
  sOff x1 2 fun x19 =>
  sLd h_5 x19 fun x20 =>
  sBits .and .i64 x20 x15 fun x22 =>
  sNe x22 (.int .i64 0) fun x23 =>
  k x23) fun x24 =>
  sIf x24 (sSlit h_5 #[.int .i64 0] [(0, 1, x4)] 3 1 fun x27 h_6 => 
  sApp h_6 x3 x27 #[.int .i64 0] 3 8 fun x28 h_7 => 
  pen_Least_j2 next x4 x28 h_7) (pen_Least_j2 next x4 x3 h_5)) (sOff x1 0 fun x30 =>
  sLd h_3 x30 fun x31 =>
  pen_told_c (.int .i64 38) x31 h_3 fun x32 h_8 => 
  sApp h_8 x3 x32 #[.int .i64 0] 3 8 fun x33 h_9 => 
  sOff x1 1 fun x35 =>
  sLd h_9 x35 fun x36 =>
  pen_told_c (.int .i64 48) x36 h_9 fun x37 h_10 => 
  sApp h_10 x33 x37 #[.int .i64 0] 3 8 fun x38 h_11 => 
  R x38 h_11)
def pen_Least_S (x0 : Value) (h : Heap) (R : Value → Heap → Prop) : Prop :=
  sBox h x0 23 fun x1 h => 
  sLdN h x1 3 fun x6 =>
  pen_Right_c x6 h fun x7 h_1 => 
  sNot x7 fun x8 =>
  sIf x8 (R (.slice none 0 0) h_1) (sSlit h_1 #[.int .i64 0] [(0, 1, (.int .i64 0))] 3 1 fun x9 h_2 => 
  sLoop (S := Value × Value) (fun nxt s h => pen_Least_l1 R x1 (fun x3' x4' h => nxt (x3', x4') h) s.1 s.2 h) (x9, (.int .i64 1)) h_2)
set_option maxRecDepth 100000 in
theorem pen_Least_runs {x0 : Value} {h : Heap} {R : Value → Heap → Prop} (H : pen_Least_S x0 h R) : pen_Least_c x0 h R := by
  unfold pen_Least_S at H
  refine runs_of (b := ⟨#[x0, undef, undef, undef, undef, undef, undef, undef, undef, undef, undef, undef, undef, undef, undef, undef, undef, undef, undef, undef, undef, undef, undef, undef, undef, undef, undef, undef, undef, undef, undef, undef, undef, undef, undef, undef, undef, undef, undef], []⟩) Try.call37 Try.func37 rfl (by kernel_rfl) (fun w0 HA => ?_)
  refine wp_seq ?_
  refine lwp_list ?_
  refine ls_d (d := some 1) (by kernel_rfl) (by kernel_rfl) HA (d_box (by kernel_rfl) H) (fun x1 h w H HA => ?_)
  refine ls_assign (x := (.slice none 0 0)) (by kernel_rfl) (by kernel_rfl) ?_
  refine ls_nil ?_
  refine then_normal ?_
  refine fr_eq (b := ⟨#[x0, x1, (.slice none 0 0), undef, undef, undef, undef, undef, undef, undef, undef, undef, undef, undef, undef, undef, undef, undef, undef, undef, undef, undef, undef, undef, undef, undef, undef, undef, undef, undef, undef, undef, undef, undef, undef, undef, undef, undef, undef], []⟩) (by kernel_rfl) ?_
  refine wp_seq ?_
  refine wp_seq ?_
  refine lwp_list ?_
  refine ls_y (d := some 6) (by kernel_rfl) (by kernel_rfl) HA (y_ldn Try.isAgg23 Try.sizeOf23 (by kernel_rfl) H) (fun x6 H => ?_)
  refine ls_d (d := some 7) (by kernel_rfl) (by kernel_rfl) HA (d_call (by kernel_rfl) (by kernel_rfl) H) (fun x7 h_1 w_1 H HA_1 => ?_)
  refine ls_p (d := some 8) (by kernel_rfl) (by kernel_rfl) (p_not (by kernel_rfl) H) (fun x8 H => ?_)
  refine ls_nil ?_
  refine then_normal ?_
  refine fr_eq (b := ⟨#[x0, x1, (.slice none 0 0), undef, undef, undef, x6, x7, x8, undef, undef, undef, undef, undef, undef, undef, undef, undef, undef, undef, undef, undef, undef, undef, undef, undef, undef, undef, undef, undef, undef, undef, undef, undef, undef, undef, undef, undef, undef], []⟩) (by kernel_rfl) ?_
  refine wp_if rfl H (fun H => ?_) (fun H => ?_)
  · refine wp_seq ?_
    refine lwp_list ?_
    refine ls_assign (x := (.slice none 0 0)) (by kernel_rfl) (by kernel_rfl) ?_
    refine ls_nil ?_
    refine then_normal ?_
    refine fr_eq (b := ⟨#[x0, x1, (.slice none 0 0), undef, undef, undef, x6, x7, x8, undef, undef, undef, undef, undef, undef, undef, undef, undef, undef, undef, undef, undef, undef, undef, undef, undef, undef, undef, undef, undef, undef, undef, undef, undef, undef, undef, undef, undef, undef], []⟩) (by kernel_rfl) ?_
    refine wp_ret ?_
    refine then_ret ?_
    exact end1 (Try.results37) (by kernel_rfl) (by kernel_rfl) HA_1 H _ (.inr rfl)
  · refine wp_skip ?_
    refine then_normal ?_
    refine fr_eq (b := ⟨#[x0, x1, (.slice none 0 0), undef, undef, undef, x6, x7, x8, undef, undef, undef, undef, undef, undef, undef, undef, undef, undef, undef, undef, undef, undef, undef, undef, undef, undef, undef, undef, undef, undef, undef, undef, undef, undef, undef, undef, undef, undef], []⟩) (by kernel_rfl) ?_
    refine wp_seq ?_
    refine lwp_list ?_
    refine ls_d (d := some 9) (by kernel_rfl) (by kernel_rfl) HA_1 (d_slit (zc := #[.int .i64 0]) Try.underlying24 Try.sizeOf3 (by decide) (.inr ⟨by decide, _, Try.zeroValue3, (by kernel_rfl)⟩) (by kernel_rfl) (by kernel_rfl) H) (fun x9 h_2 w_2 H HA_2 => ?_)
    refine ls_assign (x := x9) (by kernel_rfl) (by kernel_rfl) ?_
    refine ls_nil ?_
    refine then_normal ?_
    refine fr_eq (b := ⟨#[x0, x1, (.slice none 0 0), x9, undef, undef, x6, x7, x8, x9, undef, undef, undef, undef, undef, undef, undef, undef, undef, undef, undef, undef, undef, undef, undef, undef, undef, undef, undef, undef, undef, undef, undef, undef, undef, undef, undef, undef, undef], []⟩) (by kernel_rfl) ?_
    refine wp_seq ?_
    refine wp_seq ?_
    refine lwp_list ?_
    refine ls_assign (x := (.int .i64 1)) (by kernel_rfl) (by kernel_rfl) ?_
    refine ls_nil ?_
    refine then_normal ?_
    refine fr_eq (b := ⟨#[x0, x1, (.slice none 0 0), x9, (.int .i64 1), undef, x6, x7, x8, x9, undef, undef, undef, undef, undef, undef, undef, undef, undef, undef, undef, undef, undef, undef, undef, undef, undef, undef, undef, undef, undef, undef, undef, undef, undef, undef, undef, undef, undef], []⟩) (by kernel_rfl) ?_
    refine wp_block ?_
    obtain ⟨I, m, H0, HB⟩ := H
    refine wp_loop (fun a w => ∃ (D : Nat → Value) (x3 x4 : Value) (h_3 : Heap), a = ⟨#[x0, x1, (.slice none 0 0), x3, x4, (D 0), x6, x7, x8, x9, (D 1), (D 2), (D 3), (D 4), (D 5), (D 6), (D 7), (D 8), (D 9), (D 10), (D 11), (D 12), (D 13), (D 14), (D 15), (D 16), (D 17), (D 18), (D 19), undef, undef, undef, undef, undef, undef, undef, undef, undef, undef], []⟩ ∧ At w0 w h_3 ∧ I (x3, x4) h_3) (fun a w => m ((a.tmps.getD 3 undef), (a.tmps.getD 4 undef)) w.heap) ?_ ?_
    · exact ⟨(fun i => ([undef, undef, undef, undef, undef, undef, undef, undef, undef, undef, undef, undef, undef, undef, undef, undef, undef, undef, undef, undef]).getD i undef), x9, (.int .i64 1), h_2, by kernel_rfl, HA_2, H0⟩
    · rintro _ w_3 ⟨D, x3, x4, h_3, rfl, HA_3, HI⟩
      have H : pen_Least_l1 R x1 (fun x3' x4' h' => I (x3', x4') h' ∧ m (x3', x4') h' < m (x3, x4) h_3) x3 x4 h_3 := HB (x3, x4) h_3 HI
      clear HB H0 HI
      unfold pen_Least_l1 at H
      refine wp_seq ?_
      refine wp_seq ?_
      refine lwp_list ?_
      refine ls_move (x := x4) (by kernel_rfl) (by kernel_rfl) ?_
      refine ls_p (d := some 11) (by kernel_rfl) (by kernel_rfl) (p_sLe (by kernel_rfl) (by kernel_rfl) H) (fun x11 H => ?_)
      refine ls_nil ?_
      refine then_normal ?_
      refine fr_eq (b := ⟨#[x0, x1, (.slice none 0 0), x3, x4, (D 0), x6, x7, x8, x9, x4, x11, (D 3), (D 4), (D 5), (D 6), (D 7), (D 8), (D 9), (D 10), (D 11), (D 12), (D 13), (D 14), (D 15), (D 16), (D 17), (D 18), (D 19), undef, undef, undef, undef, undef, undef, undef, undef, undef, undef], []⟩) (by kernel_rfl) ?_
      refine wp_if rfl H (fun H => ?_) (fun H => ?_)
      · refine wp_skip ?_
        refine then_normal ?_
        refine fr_eq (b := ⟨#[x0, x1, (.slice none 0 0), x3, x4, (D 0), x6, x7, x8, x9, x4, x11, (D 3), (D 4), (D 5), (D 6), (D 7), (D 8), (D 9), (D 10), (D 11), (D 12), (D 13), (D 14), (D 15), (D 16), (D 17), (D 18), (D 19), undef, undef, undef, undef, undef, undef, undef, undef, undef, undef], []⟩) (by kernel_rfl) ?_
        refine wp_seq ?_
        refine wp_join (fun a w => ∃ (D_1 : Nat → Value) (x3_1 : Value) (h_4 : Heap), a = ⟨#[x0, x1, (.slice none 0 0), x3_1, x4, (D_1 0), x6, x7, x8, x9, x4, x11, (D 3), (D 4), (D_1 1), (D_1 2), (D_1 3), (D_1 4), (D_1 5), (D_1 6), (D_1 7), (D_1 8), (D_1 9), (D_1 10), (D_1 11), (D_1 12), (D_1 13), (D_1 14), (D_1 15), undef, undef, undef, undef, undef, undef, undef, undef, undef, undef], []⟩ ∧ At w0 w h_4 ∧ pen_Least_j2 (fun x3' x4' h' => I (x3', x4') h' ∧ m (x3', x4') h' < m (x3, x4) h_3) x4 x3_1 h_4) ?_ ?_
        · refine wp_block ?_
          refine wp_seq ?_
          refine lwp_list ?_
          refine ls_move (x := x4) (by kernel_rfl) (by kernel_rfl) ?_
          refine ls_d (d := some 15) (by kernel_rfl) (by kernel_rfl) HA_3 (d_call (by kernel_rfl) (by kernel_rfl) H) (fun x15 h_5 w_5 H HA_5 => ?_)
          refine ls_assign (x := x15) (by kernel_rfl) (by kernel_rfl) ?_
          refine ls_nil ?_
          refine then_normal ?_
          refine fr_eq (b := ⟨#[x0, x1, (.slice none 0 0), x3, x4, x15, x6, x7, x8, x9, x4, x11, (D 3), (D 4), x4, x15, (D 7), (D 8), (D 9), (D 10), (D 11), (D 12), (D 13), (D 14), (D 15), (D 16), (D 17), (D 18), (D 19), undef, undef, undef, undef, undef, undef, undef, undef, undef, undef], []⟩) (by kernel_rfl) ?_
          refine wp_seq ?_
          refine lwp_list ?_
          refine ls_move (x := x15) (by kernel_rfl) (by kernel_rfl) ?_
          refine ls_p (d := some 17) (by kernel_rfl) (by kernel_rfl) (p_sNe (by kernel_rfl) (by kernel_rfl) H) (fun x17 H => ?_)
          refine ls_move (x := x17) (by kernel_rfl) (by kernel_rfl) ?_
          refine ls_and [(), (), (), (), (), ()] (fun K a w => ∃ (D_2 : Nat → Value) (x24 : Value), a = ⟨#[x0, x1, (.slice none 0 0), x3, x4, x15, x6, x7, x8, x9, x4, x11, (D 3), (D 4), x4, x15, x15, x17, x17, (D_2 0), (D_2 1), (D_2 2), (D_2 3), (D_2 4), x24, (D 16), (D 17), (D 18), (D 19), undef, undef, undef, undef, undef, undef, undef, undef, undef, undef], []⟩ ∧ At w0 w h_5 ∧ K x24) H (fun hb H => ?_) (fun hb H => ?_) ?_
          · refine ls_p (d := some 19) (by kernel_rfl) (by rw [hb]; kernel_rfl) (p_off Try.underlying23 rfl (fun w => ⟨_, Try.sizeOf3 w⟩) rfl (by kernel_rfl) H) (fun x19 H => ?_)
            refine ls_y (d := some 20) (by kernel_rfl) (by rw [hb]; kernel_rfl) HA_5 (y_ld Try.isAgg3 (by kernel_rfl) H) (fun x20 H => ?_)
            refine ls_move (x := x15) (by rw [hb]; kernel_rfl) (by kernel_rfl) ?_
            refine ls_fr (b := ⟨#[x0, x1, (.slice none 0 0), x3, x4, x15, x6, x7, x8, x9, x4, x11, (D 3), (D 4), x4, x15, x15, x17, x17, x19, x20, x15, (D 13), (D 14), (D 15), (D 16), (D 17), (D 18), (D 19), undef, undef, undef, undef, undef, undef, undef, undef, undef, undef], []⟩) (by kernel_rfl) ?_
            refine ls_p (d := some 22) (by kernel_rfl) (by rw [hb]; kernel_rfl) (p_bits (by decide) (by kernel_rfl) (by kernel_rfl) H) (fun x22 H => ?_)
            refine ls_p (d := some 23) (by kernel_rfl) (by rw [hb]; kernel_rfl) (p_sNe (by kernel_rfl) (by kernel_rfl) H) (fun x23 H => ?_)
            refine ls_pick_t (x := x23) (by kernel_rfl) (by rw [hb]; kernel_rfl) (by kernel_rfl) ?_
            refine ls_nil ?_
            refine then_normal ?_
            exact ⟨(fun i => ([x19, x20, x15, x22, x23]).getD i undef), x23, by kernel_rfl, HA_5, H⟩
          · refine ls_skip (d := some 19) (by kernel_rfl) (by rw [hb]; kernel_rfl) ?_
            refine ls_skip (d := some 20) (by kernel_rfl) (by rw [hb]; kernel_rfl) ?_
            refine ls_skip (d := some 21) (by kernel_rfl) (by rw [hb]; kernel_rfl) ?_
            refine ls_fr (b := ⟨#[x0, x1, (.slice none 0 0), x3, x4, x15, x6, x7, x8, x9, x4, x11, (D 3), (D 4), x4, x15, x15, x17, x17, undef, undef, undef, (D 13), (D 14), (D 15), (D 16), (D 17), (D 18), (D 19), undef, undef, undef, undef, undef, undef, undef, undef, undef, undef], []⟩) (by kernel_rfl) ?_
            refine ls_skip (d := some 22) (by kernel_rfl) (by rw [hb]; kernel_rfl) ?_
            refine ls_skip (d := some 23) (by kernel_rfl) (by rw [hb]; kernel_rfl) ?_
            refine ls_pick_f (y := (.bool false)) (by kernel_rfl) (by rw [hb]; kernel_rfl) (by kernel_rfl) ?_
            refine ls_nil ?_
            refine then_normal ?_
            exact ⟨(fun i => ([undef, undef, undef, undef, undef]).getD i undef), (.bool false), by kernel_rfl, HA_5, H⟩
          · rintro _ w_6 ⟨D_2, x24, rfl, HA_6, H⟩
            refine ls_nil ?_
            refine then_normal ?_
            refine fr_eq (b := ⟨#[x0, x1, (.slice none 0 0), x3, x4, x15, x6, x7, x8, x9, x4, x11, (D 3), (D 4), x4, x15, x15, x17, x17, (D_2 0), (D_2 1), (D_2 2), (D_2 3), (D_2 4), x24, (D 16), (D 17), (D 18), (D 19), undef, undef, undef, undef, undef, undef, undef, undef, undef, undef], []⟩) (by kernel_rfl) ?_
            refine wp_if rfl H (fun H => ?_) (fun H => ?_)
            · refine lwp_list ?_
              refine ls_move (x := x3) (by kernel_rfl) (by kernel_rfl) ?_
              refine ls_move (x := x4) (by kernel_rfl) (by kernel_rfl) ?_
              refine ls_d (d := some 27) (by kernel_rfl) (by kernel_rfl) HA_6 (d_slit (zc := #[.int .i64 0]) Try.underlying24 Try.sizeOf3 (by decide) (.inr ⟨by decide, _, Try.zeroValue3, (by kernel_rfl)⟩) (by kernel_rfl) (by kernel_rfl) H) (fun x27 h_6 w_7 H HA_7 => ?_)
              refine ls_d (d := some 28) (by kernel_rfl) (by kernel_rfl) HA_7 (d_app (z := #[.int .i64 0]) Try.underlying24 Try.underlying24 (.inl ⟨_, rfl⟩) Try.typeInfo3 (by kernel_rfl) Try.sizeOf3 Try.zeroValue3 (by kernel_rfl) (by kernel_rfl) (by kernel_rfl) H) (fun x28 h_7 w_8 H HA_8 => ?_)
              refine ls_assign (x := x28) (by kernel_rfl) (by kernel_rfl) ?_
              refine ls_nil ?_
              refine block_normal ?_
              exact ⟨(fun i => ([x15, x4, x15, x15, x17, x17, (D_2 0), (D_2 1), (D_2 2), (D_2 3), (D_2 4), x24, x3, x4, x27, x28]).getD i undef), x28, h_7, by kernel_rfl, HA_8, H⟩
            · refine wp_skip ?_
              refine block_normal ?_
              exact ⟨(fun i => ([x15, x4, x15, x15, x17, x17, (D_2 0), (D_2 1), (D_2 2), (D_2 3), (D_2 4), x24, (D 16), (D 17), (D 18), (D 19)]).getD i undef), x3, h_5, by kernel_rfl, HA_6, H⟩
        · rintro _ w_4 ⟨D_1, x3_1, h_4, rfl, HA_4, H⟩
          unfold pen_Least_j2 at H
          refine then_normal ?_
          refine fr_eq (b := ⟨#[x0, x1, (.slice none 0 0), x3_1, x4, (D_1 0), x6, x7, x8, x9, x4, x11, (D 3), (D 4), (D_1 1), (D_1 2), (D_1 3), (D_1 4), (D_1 5), (D_1 6), (D_1 7), (D_1 8), (D_1 9), (D_1 10), (D_1 11), (D_1 12), (D_1 13), (D_1 14), (D_1 15), undef, undef, undef, undef, undef, undef, undef, undef, undef, undef], []⟩) (by kernel_rfl) ?_
          refine lwp_list ?_
          refine ls_move (x := x4) (by kernel_rfl) (by kernel_rfl) ?_
          refine ls_p (d := some 13) (by kernel_rfl) (by kernel_rfl) (p_add (by kernel_rfl) (by kernel_rfl) H) (fun x13 H => ?_)
          refine ls_assign (x := x13) (by kernel_rfl) (by kernel_rfl) ?_
          refine ls_nil ?_
          exact ⟨⟨(fun i => ([(D_1 0), x4, x11, x4, x13, (D_1 1), (D_1 2), (D_1 3), (D_1 4), (D_1 5), (D_1 6), (D_1 7), (D_1 8), (D_1 9), (D_1 10), (D_1 11), (D_1 12), (D_1 13), (D_1 14), (D_1 15)]).getD i undef), x3_1, x13, h_4, by kernel_rfl, HA_4, H.1⟩, loop_lt HA_4.heap HA_3.heap (by kernel_rfl) (by kernel_rfl) H.2⟩
      · refine wp_exit ?_
        refine then_exit ?_
        refine then_exit ?_
        refine block_exit ?_
        refine then_normal ?_
        refine fr_eq (b := ⟨#[x0, x1, (.slice none 0 0), x3, x4, (D 0), x6, x7, x8, x9, x4, x11, (D 3), (D 4), (D 5), (D 6), (D 7), (D 8), (D 9), (D 10), (D 11), (D 12), (D 13), (D 14), (D 15), (D 16), (D 17), (D 18), (D 19), undef, undef, undef, undef, undef, undef, undef, undef, undef, undef], []⟩) (by kernel_rfl) ?_
        refine wp_seq ?_
        refine lwp_list ?_
        refine ls_move (x := x3) (by kernel_rfl) (by kernel_rfl) ?_
        refine ls_p (d := some 30) (by kernel_rfl) (by kernel_rfl) (p_off Try.underlying23 rfl (fun w => ⟨_, Try.sizeOf3 w⟩) rfl (by kernel_rfl) H) (fun x30 H => ?_)
        refine ls_y (d := some 31) (by kernel_rfl) (by kernel_rfl) HA_3 (y_ld Try.isAgg3 (by kernel_rfl) H) (fun x31 H => ?_)
        refine ls_d (d := some 32) (by kernel_rfl) (by kernel_rfl) HA_3 (d_call (by kernel_rfl) (by kernel_rfl) H) (fun x32 h_8 w_9 H HA_9 => ?_)
        refine ls_d (d := some 33) (by kernel_rfl) (by kernel_rfl) HA_9 (d_app (z := #[.int .i64 0]) Try.underlying24 Try.underlying24 (.inl ⟨_, rfl⟩) Try.typeInfo3 (by kernel_rfl) Try.sizeOf3 Try.zeroValue3 (by kernel_rfl) (by kernel_rfl) (by kernel_rfl) H) (fun x33 h_9 w_10 H HA_10 => ?_)
        refine ls_assign (x := x33) (by kernel_rfl) (by kernel_rfl) ?_
        refine ls_nil ?_
        refine then_normal ?_
        refine fr_eq (b := ⟨#[x0, x1, (.slice none 0 0), x33, x4, (D 0), x6, x7, x8, x9, x4, x11, (D 3), (D 4), (D 5), (D 6), (D 7), (D 8), (D 9), (D 10), (D 11), (D 12), (D 13), (D 14), (D 15), (D 16), (D 17), (D 18), (D 19), x3, x30, x31, x32, x33, undef, undef, undef, undef, undef], []⟩) (by kernel_rfl) ?_
        refine wp_seq ?_
        refine lwp_list ?_
        refine ls_move (x := x33) (by kernel_rfl) (by kernel_rfl) ?_
        refine ls_p (d := some 35) (by kernel_rfl) (by kernel_rfl) (p_off Try.underlying23 rfl (fun w => ⟨_, Try.sizeOf3 w⟩) rfl (by kernel_rfl) H) (fun x35 H => ?_)
        refine ls_y (d := some 36) (by kernel_rfl) (by kernel_rfl) HA_10 (y_ld Try.isAgg3 (by kernel_rfl) H) (fun x36 H => ?_)
        refine ls_d (d := some 37) (by kernel_rfl) (by kernel_rfl) HA_10 (d_call (by kernel_rfl) (by kernel_rfl) H) (fun x37 h_10 w_11 H HA_11 => ?_)
        refine ls_d (d := some 38) (by kernel_rfl) (by kernel_rfl) HA_11 (d_app (z := #[.int .i64 0]) Try.underlying24 Try.underlying24 (.inl ⟨_, rfl⟩) Try.typeInfo3 (by kernel_rfl) Try.sizeOf3 Try.zeroValue3 (by kernel_rfl) (by kernel_rfl) (by kernel_rfl) H) (fun x38 h_11 w_12 H HA_12 => ?_)
        refine ls_assign (x := x38) (by kernel_rfl) (by kernel_rfl) ?_
        refine ls_nil ?_
        refine then_normal ?_
        refine fr_eq (b := ⟨#[x0, x1, x38, x33, x4, (D 0), x6, x7, x8, x9, x4, x11, (D 3), (D 4), (D 5), (D 6), (D 7), (D 8), (D 9), (D 10), (D 11), (D 12), (D 13), (D 14), (D 15), (D 16), (D 17), (D 18), (D 19), x3, x30, x31, x32, x33, x33, x35, x36, x37, x38], []⟩) (by kernel_rfl) ?_
        refine wp_ret ?_
        exact end1 (Try.results37) (by kernel_rfl) (by kernel_rfl) HA_12 H _ (.inr rfl)

end Go.Proofs.Ytkagmlpnidijaaa
