/- The shallow reading of one function, and that the function does it. Written by a program. -/
import Derived.Test.YtlcklnbgknhhkaaFnC
set_option linter.unusedVariables false
namespace Go.Proofs.Ytlcklnbgknhhkaa
open Go Go.HW

def ldisc_Disc_backWhile_l1 (R : Value → Heap → Prop) (x0 x1 : Value) (next : Heap → Prop) (h : Heap) : Prop :=
  sNil x0 fun x5 =>
  sOff x5 17 fun x6 =>
  sLd h x6 fun x7 =>
  sLen x7 fun x8 =>
  sGt x8 (.int .i64 0) fun x9 =>
  sAndH x9 h (fun k =>
  sNil x0 fun x13 =>
  sOff x13 17 fun x14 =>
  sLd h x14 fun x15 =>
  sNil x0 fun x17 =>
  sOff x17 17 fun x18 =>
  sLd h x18 fun x19 =>
  sLen x19 fun x20 =>
  sSub .i64 x20 (.int .i64 1) fun x21 =>
  sIxS x15 x21 1 fun x22 =>
  sLd h x22 fun x23 =>
  sCallV Try.prog x1 #[x23] h fun x24 h_3 => 
  k x24 h_3) fun x25 h_1 =>
  sIf x25 (ldisc_Disc_back_c x0 h_1 fun x27 h_2 => 
  next h_2) (R unit h_1)
def ldisc_Disc_backWhile_S (x0 x1 : Value) (h : Heap) (R : Value → Heap → Prop) : Prop :=
  sLoop (S := Unit) (fun nxt s h => ldisc_Disc_backWhile_l1 R x0 x1 (fun  h => nxt () h)  h) () h
set_option maxRecDepth 100000 in
theorem ldisc_Disc_backWhile_runs {x0 x1 : Value} {h : Heap} {R : Value → Heap → Prop} (H : ldisc_Disc_backWhile_S x0 x1 h R) : ldisc_Disc_backWhile_c x0 x1 h R := by
  unfold ldisc_Disc_backWhile_S at H
  refine runs_of (b := ⟨#[x0, x1, undef, undef, undef, undef, undef, undef, undef, undef, undef, undef, undef, undef, undef, undef, undef, undef, undef, undef, undef, undef, undef, undef, undef, undef, undef, undef], []⟩) Try.call81 Try.func81 rfl (by kernel_rfl) (fun w0 HA => ?_)
  refine wp_block ?_
  obtain ⟨I, m, H0, HB⟩ := H
  refine wp_loop (fun a w => ∃ (D : Nat → Value) (h : Heap), a = ⟨#[x0, x1, undef, undef, (D 0), (D 1), (D 2), (D 3), (D 4), (D 5), (D 6), (D 7), (D 8), (D 9), (D 10), (D 11), (D 12), (D 13), (D 14), (D 15), (D 16), (D 17), (D 18), (D 19), (D 20), (D 21), (D 22), (D 23)], []⟩ ∧ At w0 w h ∧ I () h) (fun a w => m () w.heap) ?_ ?_
  · exact ⟨(fun i => ([undef, undef, undef, undef, undef, undef, undef, undef, undef, undef, undef, undef, undef, undef, undef, undef, undef, undef, undef, undef, undef, undef, undef, undef]).getD i undef), h, by kernel_rfl, HA, H0⟩
  · rintro _ w ⟨D, h, rfl, HA, HI⟩
    have H : ldisc_Disc_backWhile_l1 R x0 x1 (fun  h' => I () h' ∧ m () h' < m () h)  h := HB () h HI
    clear HB H0 HI
    unfold ldisc_Disc_backWhile_l1 at H
    refine wp_seq ?_
    refine wp_seq ?_
    refine lwp_mx (Nat.testBit 1048576) (Nat.testBit 0) (Nat.testBit 2586615) [0, 1, 3, 7, 15, 31, 63, 127, 127, 383, 895, 1919, 127, 4223, 12415, 28799, 61567, 127103, 262015, 524159, 1048575, 2097151] (Nat.testBit 0) (fun h' => h' = h) [0, 1, 2, 3, 4, 5, 6, 7, 8, 9, 10, 11, 12, 13, 14, 15, 16, 17, 18, 19, 20, 21] (by kernel_rfl) (by kernel_rfl) (by kernel_rfl) (by kernel_rfl) HA rfl ?_
    intro w_1 HA_1
    refine lm_al (x := x0) (d := some 4) (by kernel_rfl) rfl (by kernel_rfl) (by kernel_rfl) (al_move (by kernel_rfl)) ?_
    refine lm_p (d := some 5) (by kernel_rfl) rfl (by kernel_rfl) (by kernel_rfl) (p_nil (by kernel_rfl) H) (fun x5 H => ?_)
    refine lm_p (d := some 6) (by kernel_rfl) rfl (by kernel_rfl) (by kernel_rfl) (p_off Try.underlying72 rfl (fun w => ⟨_, Try.sizeOf30 w⟩) rfl (by kernel_rfl) H) (fun x6 H => ?_)
    refine lm_f (d := some 7) (by kernel_rfl) rfl (by kernel_rfl) (by kernel_rfl) (by kernel_rfl) (by kernel_rfl) (of_eq (y_ld Try.isAgg30 (by kernel_rfl) H)) (fun x7 H => ?_)
    refine lm_p (d := some 8) (by kernel_rfl) rfl (by kernel_rfl) (by kernel_rfl) (p_len Try.underlying30 (by kernel_rfl) H) (fun x8 H => ?_)
    refine lm_p (d := some 9) (by kernel_rfl) rfl (by kernel_rfl) (by kernel_rfl) (p_sGt (by kernel_rfl) (by kernel_rfl) H) (fun x9 H => ?_)
    refine lm_fr (b := ⟨#[x0, x1, undef, undef, x0, x5, x6, x7, x8, x9, (D 6), (D 7), (D 8), (D 9), (D 10), (D 11), (D 12), (D 13), (D 14), (D 15), (D 16), (D 17), (D 18), (D 19), (D 20), (D 21), (D 22), (D 23)], []⟩) (by kernel_rfl) ?_
    refine lm_al (x := x9) (d := some 10) (by kernel_rfl) rfl (by kernel_rfl) (by kernel_rfl) (al_move (by kernel_rfl)) ?_
    refine lm_andh [(), (), (), (), (), (), (), (), (), (), (), (), (), (), ()] (fun K a w => ∃ (D_1 : Nat → Value) (x25 : Value) (h_1 : Heap), a = ⟨#[x0, x1, undef, undef, x0, x5, x6, x7, x8, x9, x9, (D_1 0), (D_1 1), (D_1 2), (D_1 3), (D_1 4), (D_1 5), (D_1 6), (D_1 7), (D_1 8), (D_1 9), (D_1 10), (D_1 11), (D_1 12), (D_1 13), x25, (D 22), (D 23)], []⟩ ∧ At w0 w h_1 ∧ K x25 h_1) H (fun hb H => ?_) (fun hb H => ?_) ?_
    · refine lm_al (x := x1) (d := some 11) (by kernel_rfl) rfl (by kernel_rfl) (by rw [hb]; kernel_rfl) (al_move (by kernel_rfl)) ?_
      refine lm_al (x := x0) (d := some 12) (by kernel_rfl) rfl (by kernel_rfl) (by rw [hb]; kernel_rfl) (al_move (by kernel_rfl)) ?_
      refine lm_p (d := some 13) (by kernel_rfl) rfl (by kernel_rfl) (by rw [hb]; kernel_rfl) (p_nil (by kernel_rfl) H) (fun x13 H => ?_)
      refine lm_p (d := some 14) (by kernel_rfl) rfl (by kernel_rfl) (by rw [hb]; kernel_rfl) (p_off Try.underlying72 rfl (fun w => ⟨_, Try.sizeOf30 w⟩) rfl (by kernel_rfl) H) (fun x14 H => ?_)
      refine lm_f (d := some 15) (by kernel_rfl) rfl (by kernel_rfl) (by kernel_rfl) (by kernel_rfl) (by rw [hb]; kernel_rfl) (of_eq (y_ld Try.isAgg30 (by kernel_rfl) H)) (fun x15 H => ?_)
      refine lm_fr (b := ⟨#[x0, x1, undef, undef, x0, x5, x6, x7, x8, x9, x9, x1, x0, x13, x14, x15, (D 12), (D 13), (D 14), (D 15), (D 16), (D 17), (D 18), (D 19), (D 20), (D 21), (D 22), (D 23)], []⟩) (by kernel_rfl) ?_
      refine lm_al (x := x0) (d := some 16) (by kernel_rfl) rfl (by kernel_rfl) (by rw [hb]; kernel_rfl) (al_move (by kernel_rfl)) ?_
      refine lm_p (d := some 17) (by kernel_rfl) rfl (by kernel_rfl) (by rw [hb]; kernel_rfl) (p_nil (by kernel_rfl) H) (fun x17 H => ?_)
      refine lm_p (d := some 18) (by kernel_rfl) rfl (by kernel_rfl) (by rw [hb]; kernel_rfl) (p_off Try.underlying72 rfl (fun w => ⟨_, Try.sizeOf30 w⟩) rfl (by kernel_rfl) H) (fun x18 H => ?_)
      refine lm_f (d := some 19) (by kernel_rfl) rfl (by kernel_rfl) (by kernel_rfl) (by kernel_rfl) (by rw [hb]; kernel_rfl) (of_eq (y_ld Try.isAgg30 (by kernel_rfl) H)) (fun x19 H => ?_)
      refine lm_p (d := some 20) (by kernel_rfl) rfl (by kernel_rfl) (by rw [hb]; kernel_rfl) (p_len Try.underlying30 (by kernel_rfl) H) (fun x20 H => ?_)
      refine lm_p (d := some 21) (by kernel_rfl) rfl (by kernel_rfl) (by rw [hb]; kernel_rfl) (p_sub (by kernel_rfl) (by kernel_rfl) H) (fun x21 H => ?_)
      refine lm_fr (b := ⟨#[x0, x1, undef, undef, x0, x5, x6, x7, x8, x9, x9, x1, x0, x13, x14, x15, x0, x17, x18, x19, x20, x21, (D 18), (D 19), (D 20), (D 21), (D 22), (D 23)], []⟩) (by kernel_rfl) ?_
      refine lm_p (d := some 22) (by kernel_rfl) rfl (by kernel_rfl) (by rw [hb]; kernel_rfl) (p_ixs Try.underlying30 Try.sizeOf5 (by kernel_rfl) (by kernel_rfl) H) (fun x22 H => ?_)
      refine lm_f (d := some 23) (by kernel_rfl) rfl (by kernel_rfl) (by kernel_rfl) (by kernel_rfl) (by rw [hb]; kernel_rfl) (of_eq (y_ld Try.isAgg5 (by kernel_rfl) H)) (fun x23 H => ?_)
      refine lm_d (d := some 24) (by kernel_rfl) rfl (by kernel_rfl) (by kernel_rfl) (by rw [hb]; kernel_rfl) HA_1 (d_callx (by kernel_rfl) (by kernel_rfl) H) (fun x24 h_3 w_4 H HA_4 => ?_)
      refine lm_al (x := x24) (d := some 25) (by kernel_rfl) rfl (by kernel_rfl) (by kernel_rfl) (al_pick_t (by rw [hb]; kernel_rfl) (by kernel_rfl)) ?_
      refine lm_nil ?_
      exact ⟨(fun i => ([x1, x0, x13, x14, x15, x0, x17, x18, x19, x20, x21, x22, x23, x24]).getD i undef), x24, h_3, by kernel_rfl, HA_4, H⟩
    · refine lm_skip (d := some 11) (by kernel_rfl) rfl (by rw [hb]; kernel_rfl) ?_
      refine lm_skip (d := some 12) (by kernel_rfl) rfl (by rw [hb]; kernel_rfl) ?_
      refine lm_skip (d := some 13) (by kernel_rfl) rfl (by rw [hb]; kernel_rfl) ?_
      refine lm_skip (d := some 14) (by kernel_rfl) rfl (by rw [hb]; kernel_rfl) ?_
      refine lm_skip (d := some 15) (by kernel_rfl) rfl (by rw [hb]; kernel_rfl) ?_
      refine lm_fr (b := ⟨#[x0, x1, undef, undef, x0, x5, x6, x7, x8, x9, x9, undef, undef, undef, undef, undef, (D 12), (D 13), (D 14), (D 15), (D 16), (D 17), (D 18), (D 19), (D 20), (D 21), (D 22), (D 23)], []⟩) (by kernel_rfl) ?_
      refine lm_skip (d := some 16) (by kernel_rfl) rfl (by rw [hb]; kernel_rfl) ?_
      refine lm_skip (d := some 17) (by kernel_rfl) rfl (by rw [hb]; kernel_rfl) ?_
      refine lm_skip (d := some 18) (by kernel_rfl) rfl (by rw [hb]; kernel_rfl) ?_
      refine lm_skip (d := some 19) (by kernel_rfl) rfl (by rw [hb]; kernel_rfl) ?_
      refine lm_skip (d := some 20) (by kernel_rfl) rfl (by rw [hb]; kernel_rfl) ?_
      refine lm_skip (d := some 21) (by kernel_rfl) rfl (by rw [hb]; kernel_rfl) ?_
      refine lm_fr (b := ⟨#[x0, x1, undef, undef, x0, x5, x6, x7, x8, x9, x9, undef, undef, undef, undef, undef, undef, undef, undef, undef, undef, undef, (D 18), (D 19), (D 20), (D 21), (D 22), (D 23)], []⟩) (by kernel_rfl) ?_
      refine lm_skip (d := some 22) (by kernel_rfl) rfl (by rw [hb]; kernel_rfl) ?_
      refine lm_skip (d := some 23) (by kernel_rfl) rfl (by rw [hb]; kernel_rfl) ?_
      refine lm_skip (d := some 24) (by kernel_rfl) rfl (by rw [hb]; kernel_rfl) ?_
      refine lm_al (x := (.bool false)) (d := some 25) (by kernel_rfl) rfl (by kernel_rfl) (by kernel_rfl) (al_pick_f (by rw [hb]; kernel_rfl) (by kernel_rfl)) ?_
      refine lm_nil ?_
      exact ⟨(fun i => ([undef, undef, undef, undef, undef, undef, undef, undef, undef, undef, undef, undef, undef, undef]).getD i undef), (.bool false), h, by kernel_rfl, HA_1, H⟩
    · rintro _ w_2 ⟨D_1, x25, h_1, rfl, HA_2, H⟩
      refine lm_nil ?_
      refine then_normal ?_
      refine fr_eq (b := ⟨#[x0, x1, undef, undef, x0, x5, x6, x7, x8, x9, x9, (D_1 0), (D_1 1), (D_1 2), (D_1 3), (D_1 4), (D_1 5), (D_1 6), (D_1 7), (D_1 8), (D_1 9), (D_1 10), (D_1 11), (D_1 12), (D_1 13), x25, (D 22), (D 23)], []⟩) (by kernel_rfl) ?_
      refine wp_if rfl H (fun H => ?_) (fun H => ?_)
      · refine wp_skip ?_
        refine then_normal ?_
        refine fr_eq (b := ⟨#[x0, x1, undef, undef, x0, x5, x6, x7, x8, x9, x9, (D_1 0), (D_1 1), (D_1 2), (D_1 3), (D_1 4), (D_1 5), (D_1 6), (D_1 7), (D_1 8), (D_1 9), (D_1 10), (D_1 11), (D_1 12), (D_1 13), x25, (D 22), (D 23)], []⟩) (by kernel_rfl) ?_
        refine wp_block ?_
        refine lwp_list ?_
        refine ls_move (x := x0) (by kernel_rfl) (by kernel_rfl) ?_
        refine ls_d (d := some 27) (by kernel_rfl) (by kernel_rfl) HA_2 (d_call (by kernel_rfl) (by kernel_rfl) H) (fun x27 h_2 w_3 H HA_3 => ?_)
        refine ls_nil ?_
        refine block_normal ?_
        exact ⟨⟨(fun i => ([x0, x5, x6, x7, x8, x9, x9, (D_1 0), (D_1 1), (D_1 2), (D_1 3), (D_1 4), (D_1 5), (D_1 6), (D_1 7), (D_1 8), (D_1 9), (D_1 10), (D_1 11), (D_1 12), (D_1 13), x25, x0, x27]).getD i undef), h_2, by kernel_rfl, HA_3, H.1⟩, loop_lt HA_3.heap HA.heap (by kernel_rfl) (by kernel_rfl) H.2⟩
      · refine wp_exit ?_
        refine then_exit ?_
        refine then_exit ?_
        refine block_exit ?_
        exact end0 (Try.results81) (by kernel_rfl) HA_2 H _ (.inl rfl)

end Go.Proofs.Ytlcklnbgknhhkaa
