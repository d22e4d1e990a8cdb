/- The shallow reading of one function, and that the function does it. Written by a program. -/
import Derived.Test.YtecoejjpdogklaaFnC
set_option linter.unusedVariables false
namespace Go.Proofs.Ytecoejjpdogklaa
open Go Go.HW

def betonyref04_put_S (x0 x1 : Value) (h : Heap) (R : Value → Heap → Prop) : Prop :=
  sBox h x1 35 fun x3 h => 
  sOff x3 2 fun x5 =>
  sLd h x5 fun x6 =>
  sLt x6 (.int .i64 1) fun x7 =>
  sOr x7 (fun k =>
  sOff x3 3 fun x9 =>
  sLd h x9 fun x10 =>
  sLt x10 (.int .i64 1) fun x11 =>
  k x11) fun x12 =>
  sIf x12 (R x0 h) (∃ C : Heap → Prop, C h ∧ (sLdNC C x3 4 fun x17 =>
  (sSlit h #[] [] 35 0 fun x14 h_1 => C h_1 ∧ (
  (sApp h_1 x14 x0 #[.int .i64 0, .int .i64 0, .int .i64 0, .int .i64 0] 35 32 fun x16 h_2 => C h_2 ∧ (
  sSlit h_2 #[.int .i64 0, .int .i64 0, .int .i64 0, .int .i64 0] [(0, 4, x17)] 35 1 fun x18 h_3 => 
  sApp h_3 x16 x18 #[.int .i64 0, .int .i64 0, .int .i64 0, .int .i64 0] 35 32 fun x19 h_4 => 
  R x19 h_4)) ∧
  (sSlit h_1 #[.int .i64 0, .int .i64 0, .int .i64 0, .int .i64 0] [(0, 4, x17)] 35 1 fun x18_1 h_5 => 
  sApp h_5 x14 x0 #[.int .i64 0, .int .i64 0, .int .i64 0, .int .i64 0] 35 32 fun x16_1 h_6 => C h_6 ∧ (
  sApp h_6 x16_1 x18_1 #[.int .i64 0, .int .i64 0, .int .i64 0, .int .i64 0] 35 32 fun x19_1 h_7 => 
  R x19_1 h_7)))) ∧
  (sSlit h #[.int .i64 0, .int .i64 0, .int .i64 0, .int .i64 0] [(0, 4, x17)] 35 1 fun x18_2 h_8 => 
  sSlit h_8 #[] [] 35 0 fun x14_1 h_9 => C h_9 ∧ (
  sApp h_9 x14_1 x0 #[.int .i64 0, .int .i64 0, .int .i64 0, .int .i64 0] 35 32 fun x16_2 h_10 => C h_10 ∧ (
  sApp h_10 x16_2 x18_2 #[.int .i64 0, .int .i64 0, .int .i64 0, .int .i64 0] 35 32 fun x19_2 h_11 => 
  R x19_2 h_11)))))
set_option maxRecDepth 100000 in
theorem betonyref04_put_runs {x0 x1 : Value} {h : Heap} {R : Value → Heap → Prop} (H : betonyref04_put_S x0 x1 h R) : betonyref04_put_c x0 x1 h R := by
  unfold betonyref04_put_S at H
  refine runs_of (b := ⟨#[x0, x1, undef, undef, undef, undef, undef, undef, undef, undef, undef, undef, undef, undef, undef, undef, undef, undef, undef, undef], []⟩) Try.call66 Try.func66 rfl (by kernel_rfl) (fun w0 HA => ?_)
  refine wp_seq ?_
  refine lwp_list ?_
  refine ls_d (d := some 3) (by kernel_rfl) (by kernel_rfl) HA (d_box (by kernel_rfl) H) (fun x3 h w H HA => ?_)
  refine ls_assign (x := (.slice none 0 0)) (by kernel_rfl) (by kernel_rfl) ?_
  refine ls_nil ?_
  refine then_normal ?_
  refine fr_eq (b := ⟨#[x0, x1, undef, x3, (.slice none 0 0), undef, undef, undef, undef, undef, undef, undef, undef, undef, undef, undef, undef, undef, undef, undef], []⟩) (by kernel_rfl) ?_
  refine wp_seq ?_
  refine wp_seq ?_
  refine lwp_list ?_
  refine ls_p (d := some 5) (by kernel_rfl) (by kernel_rfl) (p_off Try.underlying35 rfl (fun w => ⟨_, Try.sizeOf3 w⟩) rfl (by kernel_rfl) H) (fun x5 H => ?_)
  refine ls_y (d := some 6) (by kernel_rfl) (by kernel_rfl) HA (y_ld Try.isAgg3 (by kernel_rfl) H) (fun x6 H => ?_)
  refine ls_p (d := some 7) (by kernel_rfl) (by kernel_rfl) (p_sLt (by kernel_rfl) (by kernel_rfl) H) (fun x7 H => ?_)
  refine ls_move (x := x7) (by kernel_rfl) (by kernel_rfl) ?_
  refine ls_or [(), (), (), ()] (fun K a w => ∃ (D : Nat → Value) (x12 : Value), a = ⟨#[x0, x1, undef, x3, (.slice none 0 0), x5, x6, x7, x7, (D 0), (D 1), (D 2), x12, undef, undef, undef, undef, undef, undef, undef], []⟩ ∧ At w0 w h ∧ K x12) H (fun hb H => ?_) (fun hb H => ?_) ?_
  · refine ls_p (d := some 9) (by kernel_rfl) (by rw [hb]; kernel_rfl) (p_off Try.underlying35 rfl (fun w => ⟨_, Try.sizeOf3 w⟩) rfl (by kernel_rfl) H) (fun x9 H => ?_)
    refine ls_y (d := some 10) (by kernel_rfl) (by rw [hb]; kernel_rfl) HA (y_ld Try.isAgg3 (by kernel_rfl) H) (fun x10 H => ?_)
    refine ls_fr (b := ⟨#[x0, x1, undef, x3, (.slice none 0 0), x5, x6, x7, x7, x9, x10, undef, undef, undef, undef, undef, undef, undef, undef, undef], []⟩) (by kernel_rfl) ?_
    refine ls_p (d := some 11) (by kernel_rfl) (by rw [hb]; kernel_rfl) (p_sLt (by kernel_rfl) (by kernel_rfl) H) (fun x11 H => ?_)
    refine ls_pick_f (y := x11) (by kernel_rfl) (by rw [hb]; kernel_rfl) (by kernel_rfl) ?_
    refine ls_nil ?_
    refine then_normal ?_
    exact ⟨(fun i => ([x9, x10, x11]).getD i undef), x11, by kernel_rfl, HA, H⟩
  · refine ls_skip (d := some 9) (by kernel_rfl) (by rw [hb]; kernel_rfl) ?_
    refine ls_skip (d := some 10) (by kernel_rfl) (by rw [hb]; kernel_rfl) ?_
    refine ls_fr (b := ⟨#[x0, x1, undef, x3, (.slice none 0 0), x5, x6, x7, x7, undef, undef, undef, undef, undef, undef, undef, undef, undef, undef, undef], []⟩) (by kernel_rfl) ?_
    refine ls_skip (d := some 11) (by kernel_rfl) (by rw [hb]; kernel_rfl) ?_
    refine ls_pick_t (x := (.bool true)) (by kernel_rfl) (by rw [hb]; kernel_rfl) (by kernel_rfl) ?_
    refine ls_nil ?_
    refine then_normal ?_
    exact ⟨(fun i => ([undef, undef, undef]).getD i undef), (.bool true), by kernel_rfl, HA, H⟩
  · rintro _ w_1 ⟨D, x12, rfl, HA_1, H⟩
    refine ls_nil ?_
    refine then_normal ?_
    refine fr_eq (b := ⟨#[x0, x1, undef, x3, (.slice none 0 0), x5, x6, x7, x7, (D 0), (D 1), (D 2), x12, undef, undef, undef, undef, undef, undef, undef], []⟩) (by kernel_rfl) ?_
    refine wp_if rfl H (fun H => ?_) (fun H => ?_)
    · refine wp_seq ?_
      refine lwp_list ?_
      refine ls_move (x := x0) (by kernel_rfl) (by kernel_rfl) ?_
      refine ls_assign (x := x0) (by kernel_rfl) (by kernel_rfl) ?_
      refine ls_nil ?_
      refine then_normal ?_
      refine fr_eq (b := ⟨#[x0, x1, undef, x3, x0, x5, x6, x7, x7, (D 0), (D 1), (D 2), x12, x0, undef, undef, undef, undef, undef, undef], []⟩) (by kernel_rfl) ?_
      refine wp_ret ?_
      refine then_ret ?_
      exact end1 (Try.results66) (by kernel_rfl) (by kernel_rfl) HA_1 H _ (.inr rfl)
    · refine wp_skip ?_
      refine then_normal ?_
      refine fr_eq (b := ⟨#[x0, x1, undef, x3, (.slice none 0 0), x5, x6, x7, x7, (D 0), (D 1), (D 2), x12, undef, undef, undef, undef, undef, undef, undef], []⟩) (by kernel_rfl) ?_
      refine wp_seq ?_
      obtain ⟨C, HC, H⟩ := H
      refine lwp_pl (Nat.testBit 53) (Nat.testBit 5) (Nat.testBit 66) [0, 0, 3, 0, 8, 31, 63] C (.op 1 (.op 3 (.alt (.op 0 (.alt (.op 2 (.op 4 (.op 5 (.op 6 .done)))) (.op 4 (.op 2 (.op 5 (.op 6 .done)))))) (.op 4 (.op 0 (.op 2 (.op 5 (.op 6 .done)))))))) (by kernel_rfl) (by kernel_rfl) HA_1 HC ?_
      intro w_2 HA_2
      refine lp_al (x := x0) (d := some 15) (by kernel_rfl) rfl (by kernel_rfl) (by kernel_rfl) (al_move (by kernel_rfl)) ?_
      refine lp_f (d := some 17) (by kernel_rfl) rfl (by kernel_rfl) (by kernel_rfl) (by kernel_rfl) (c_ldn Try.isAgg35 Try.sizeOf35 (by kernel_rfl) H) (fun x17 H => ?_)
      obtain ⟨Ha, Hb⟩ := H
      refine lp_alt ?_ ?_
      · have H := Ha
        clear Ha Hb
        refine lp_dc (d := some 14) (by kernel_rfl) rfl (by kernel_rfl) (by kernel_rfl) HA_2 (d_slit (zc := #[]) Try.underlying37 Try.sizeOf35 (by decide) (.inl ⟨(by kernel_rfl), (by kernel_rfl)⟩) (by kernel_rfl) (by kernel_rfl) H) (fun x14 h_1 w_3 H HA_3 => ?_)
        obtain ⟨Ha, Hb⟩ := H
        refine lp_alt ?_ ?_
        · have H := Ha
          clear Ha Hb
          refine lp_dc (d := some 16) (by kernel_rfl) rfl (by kernel_rfl) (by kernel_rfl) HA_3 (d_app (z := #[.int .i64 0, .int .i64 0, .int .i64 0, .int .i64 0]) Try.underlying37 Try.underlying37 (.inl ⟨_, rfl⟩) Try.typeInfo35 (by kernel_rfl) Try.sizeOf35 Try.zeroValue35 (by kernel_rfl) (by kernel_rfl) (by kernel_rfl) H) (fun x16 h_2 w_4 H HA_4 => ?_)
          refine lp_d (d := some 18) (by kernel_rfl) rfl (by kernel_rfl) (by kernel_rfl) (by kernel_rfl) HA_4 (d_slit (zc := #[.int .i64 0, .int .i64 0, .int .i64 0, .int .i64 0]) Try.underlying37 Try.sizeOf35 (by decide) (.inr ⟨by decide, _, Try.zeroValue35, (by kernel_rfl)⟩) (by kernel_rfl) (by kernel_rfl) H) (fun x18 h_3 w_5 H HA_5 => ?_)
          refine lp_d (d := some 19) (by kernel_rfl) rfl (by kernel_rfl) (by kernel_rfl) (by kernel_rfl) HA_5 (d_app (z := #[.int .i64 0, .int .i64 0, .int .i64 0, .int .i64 0]) Try.underlying37 Try.underlying37 (.inl ⟨_, rfl⟩) Try.typeInfo35 (by kernel_rfl) Try.sizeOf35 Try.zeroValue35 (by kernel_rfl) (by kernel_rfl) (by kernel_rfl) H) (fun x19 h_4 w_6 H HA_6 => ?_)
          refine lp_fr (b := ⟨#[x0, x1, undef, x3, (.slice none 0 0), x5, x6, x7, x7, (D 0), (D 1), (D 2), x12, undef, x14, x0, x16, x17, x18, x19], []⟩) (by kernel_rfl) ?_
          refine lp_al (x := x19) (d := some 4) (by kernel_rfl) rfl (by kernel_rfl) (by kernel_rfl) (al_assign (by kernel_rfl)) ?_
          refine lp_nil ?_
          refine then_normal ?_
          refine fr_eq (b := ⟨#[x0, x1, undef, x3, x19, x5, x6, x7, x7, (D 0), (D 1), (D 2), x12, undef, x14, x0, x16, x17, x18, x19], []⟩) (by kernel_rfl) ?_
          refine wp_ret ?_
          exact end1 (Try.results66) (by kernel_rfl) (by kernel_rfl) HA_6 H _ (.inr rfl)
        · have H := Hb
          clear Ha Hb
          refine lp_d (d := some 18) (by kernel_rfl) rfl (by kernel_rfl) (by kernel_rfl) (by kernel_rfl) HA_3 (d_slit (zc := #[.int .i64 0, .int .i64 0, .int .i64 0, .int .i64 0]) Try.underlying37 Try.sizeOf35 (by decide) (.inr ⟨by decide, _, Try.zeroValue35, (by kernel_rfl)⟩) (by kernel_rfl) (by kernel_rfl) H) (fun x18_1 h_5 w_7 H HA_7 => ?_)
          refine lp_dc (d := some 16) (by kernel_rfl) rfl (by kernel_rfl) (by kernel_rfl) HA_7 (d_app (z := #[.int .i64 0, .int .i64 0, .int .i64 0, .int .i64 0]) Try.underlying37 Try.underlying37 (.inl ⟨_, rfl⟩) Try.typeInfo35 (by kernel_rfl) Try.sizeOf35 Try.zeroValue35 (by kernel_rfl) (by kernel_rfl) (by kernel_rfl) H) (fun x16_1 h_6 w_8 H HA_8 => ?_)
          refine lp_d (d := some 19) (by kernel_rfl) rfl (by kernel_rfl) (by kernel_rfl) (by kernel_rfl) HA_8 (d_app (z := #[.int .i64 0, .int .i64 0, .int .i64 0, .int .i64 0]) Try.underlying37 Try.underlying37 (.inl ⟨_, rfl⟩) Try.typeInfo35 (by kernel_rfl) Try.sizeOf35 Try.zeroValue35 (by kernel_rfl) (by kernel_rfl) (by kernel_rfl) H) (fun x19_1 h_7 w_9 H HA_9 => ?_)
          refine lp_fr (b := ⟨#[x0, x1, undef, x3, (.slice none 0 0), x5, x6, x7, x7, (D 0), (D 1), (D 2), x12, undef, x14, x0, x16_1, x17, x18_1, x19_1], []⟩) (by kernel_rfl) ?_
          refine lp_al (x := x19_1) (d := some 4) (by kernel_rfl) rfl (by kernel_rfl) (by kernel_rfl) (al_assign (by kernel_rfl)) ?_
          refine lp_nil ?_
          refine then_normal ?_
          refine fr_eq (b := ⟨#[x0, x1, undef, x3, x19_1, x5, x6, x7, x7, (D 0), (D 1), (D 2), x12, undef, x14, x0, x16_1, x17, x18_1, x19_1], []⟩) (by kernel_rfl) ?_
          refine wp_ret ?_
          exact end1 (Try.results66) (by kernel_rfl) (by kernel_rfl) HA_9 H _ (.inr rfl)
      · have H := Hb
        clear Ha Hb
        refine lp_d (d := some 18) (by kernel_rfl) rfl (by kernel_rfl) (by kernel_rfl) (by kernel_rfl) HA_2 (d_slit (zc := #[.int .i64 0, .int .i64 0, .int .i64 0, .int .i64 0]) Try.underlying37 Try.sizeOf35 (by decide) (.inr ⟨by decide, _, Try.zeroValue35, (by kernel_rfl)⟩) (by kernel_rfl) (by kernel_rfl) H) (fun x18_2 h_8 w_10 H HA_10 => ?_)
        refine lp_dc (d := some 14) (by kernel_rfl) rfl (by kernel_rfl) (by kernel_rfl) HA_10 (d_slit (zc := #[]) Try.underlying37 Try.sizeOf35 (by decide) (.inl ⟨(by kernel_rfl), (by kernel_rfl)⟩) (by kernel_rfl) (by kernel_rfl) H) (fun x14_1 h_9 w_11 H HA_11 => ?_)
        refine lp_dc (d := some 16) (by kernel_rfl) rfl (by kernel_rfl) (by kernel_rfl) HA_11 (d_app (z := #[.int .i64 0, .int .i64 0, .int .i64 0, .int .i64 0]) Try.underlying37 Try.underlying37 (.inl ⟨_, rfl⟩) Try.typeInfo35 (by kernel_rfl) Try.sizeOf35 Try.zeroValue35 (by kernel_rfl) (by kernel_rfl) (by kernel_rfl) H) (fun x16_2 h_10 w_12 H HA_12 => ?_)
        refine lp_d (d := some 19) (by kernel_rfl) rfl (by kernel_rfl) (by kernel_rfl) (by kernel_rfl) HA_12 (d_app (z := #[.int .i64 0, .int .i64 0, .int .i64 0, .int .i64 0]) Try.underlying37 Try.underlying37 (.inl ⟨_, rfl⟩) Try.typeInfo35 (by kernel_rfl) Try.sizeOf35 Try.zeroValue35 (by kernel_rfl) (by kernel_rfl) (by kernel_rfl) H) (fun x19_2 h_11 w_13 H HA_13 => ?_)
        refine lp_fr (b := ⟨#[x0, x1, undef, x3, (.slice none 0 0), x5, x6, x7, x7, (D 0), (D 1), (D 2), x12, undef, x14_1, x0, x16_2, x17, x18_2, x19_2], []⟩) (by kernel_rfl) ?_
        refine lp_al (x := x19_2) (d := some 4) (by kernel_rfl) rfl (by kernel_rfl) (by kernel_rfl) (al_assign (by kernel_rfl)) ?_
        refine lp_nil ?_
        refine then_normal ?_
        refine fr_eq (b := ⟨#[x0, x1, undef, x3, x19_2, x5, x6, x7, x7, (D 0), (D 1), (D 2), x12, undef, x14_1, x0, x16_2, x17, x18_2, x19_2], []⟩) (by kernel_rfl) ?_
        refine wp_ret ?_
        exact end1 (Try.results66) (by kernel_rfl) (by kernel_rfl) HA_13 H _ (.inr rfl)

end Go.Proofs.Ytecoejjpdogklaa
