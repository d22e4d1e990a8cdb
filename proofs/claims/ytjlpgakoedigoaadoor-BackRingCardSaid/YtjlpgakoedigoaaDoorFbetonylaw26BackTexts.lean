/- The shallow reading of one function, and that the function does it. Written by a program. -/
import Derived.Test.YtjlpgakoedigoaaDoorFnC
set_option linter.unusedVariables false
namespace Go.Proofs.YtjlpgakoedigoaaDoor
open Go Go.HW

def betonylaw26_BackTexts_S (x0 x1 : Value) (h : Heap) (R : Value → Heap → Prop) : Prop :=
  sLen x0 fun x7 =>
  sGt x7 (.int .i64 60) fun x8 =>
  sIf x8 (betonylaw26_awake_c  h fun x9 h => 
  R x9 h) (sSlit h #[] [] 32 0 fun x10 h_1 => 
  sApp h_1 x10 x0 #[.int .i32 0, .int .i64 0, .int .i64 0, .int .i64 0] 32 32 fun x12 h_2 => 
  sConv .i64 x1 fun x14 =>
  sRem .i64 x14 (.int .i64 20) fun x15 =>
  sAppZ h_2 x12 x15 #[.int .i32 0, .int .i64 0, .int .i64 0, .int .i64 0] 32 32 fun x16 h_3 => 
  back_Text_c x0 h_3 fun x18 h_4 => 
  betonyref26_Text_c x0 h_4 fun x20 h_5 => 
  sEqlS x18 x20 fun x21 =>
  sAndH x21 h_5 (fun k_1 =>
  back_Text_c x16 h_5 fun x24 h_9 => 
  back_Text_c x0 h_9 fun x26 h_10 => 
  sEqlS x24 x26 fun x27 =>
  k_1 x27 h_10) fun x28 h_6 =>
  sAndH x28 h_6 (fun k =>
  betonylaw26_awake_c  h_6 fun x30 h_8 => 
  k x30 h_8) fun x31 h_7 =>
  R x31 h_7)
set_option maxRecDepth 100000 in
theorem betonylaw26_BackTexts_runs {x0 x1 : Value} {h : Heap} {R : Value → Heap → Prop} (H : betonylaw26_BackTexts_S x0 x1 h R) : betonylaw26_BackTexts_c x0 x1 h R := by
  unfold betonylaw26_BackTexts_S at H
  refine runs_of (b := ⟨#[x0, x1, undef, undef, undef, undef, undef, undef, undef, undef, undef, undef, undef, undef, undef, undef, undef, undef, undef, undef, undef, undef, undef, undef, undef, undef, undef, undef, undef, undef, undef, undef], []⟩) Tryd.call3 Tryd.func3 rfl (by kernel_rfl) (fun w0 HA => ?_)
  refine wp_seq ?_
  refine lwp_list ?_
  refine ls_assign (x := (.bool false)) (by kernel_rfl) (by kernel_rfl) ?_
  refine ls_nil ?_
  refine then_normal ?_
  refine fr_eq (b := ⟨#[x0, x1, undef, undef, (.bool false), undef, undef, undef, undef, undef, undef, undef, undef, undef, undef, undef, undef, undef, undef, undef, undef, undef, undef, undef, undef, undef, undef, undef, undef, undef, undef, undef], []⟩) (by kernel_rfl) ?_
  refine wp_seq ?_
  refine wp_seq ?_
  refine lwp_list ?_
  refine ls_move (x := x0) (by kernel_rfl) (by kernel_rfl) ?_
  refine ls_p (d := some 7) (by kernel_rfl) (by kernel_rfl) (p_len Tryd.underlying22 (by kernel_rfl) H) (fun x7 H => ?_)
  refine ls_p (d := some 8) (by kernel_rfl) (by kernel_rfl) (p_sGt (by kernel_rfl) (by kernel_rfl) H) (fun x8 H => ?_)
  refine ls_nil ?_
  refine then_normal ?_
  refine fr_eq (b := ⟨#[x0, x1, undef, undef, (.bool false), undef, x0, x7, x8, undef, undef, undef, undef, undef, undef, undef, undef, undef, undef, undef, undef, undef, undef, undef, undef, undef, undef, undef, undef, undef, undef, undef], []⟩) (by kernel_rfl) ?_
  refine wp_if rfl H (fun H => ?_) (fun H => ?_)
  · refine wp_seq ?_
    refine lwp_list ?_
    refine ls_d (d := some 9) (by kernel_rfl) (by kernel_rfl) HA (d_call (by kernel_rfl) (by kernel_rfl) H) (fun x9 h w H HA => ?_)
    refine ls_assign (x := x9) (by kernel_rfl) (by kernel_rfl) ?_
    refine ls_nil ?_
    refine then_normal ?_
    refine fr_eq (b := ⟨#[x0, x1, undef, undef, x9, undef, x0, x7, x8, x9, undef, undef, undef, undef, undef, undef, undef, undef, undef, undef, undef, undef, undef, undef, undef, undef, undef, undef, undef, undef, undef, undef], []⟩) (by kernel_rfl) ?_
    refine wp_ret ?_
    refine then_ret ?_
    exact end1 (Tryd.results3) (by kernel_rfl) (by kernel_rfl) HA H _ (.inr rfl)
  · refine wp_skip ?_
    refine then_normal ?_
    refine fr_eq (b := ⟨#[x0, x1, undef, undef, (.bool false), undef, x0, x7, x8, undef, undef, undef, undef, undef, undef, undef, undef, undef, undef, undef, undef, undef, undef, undef, undef, undef, undef, undef, undef, undef, undef, undef], []⟩) (by kernel_rfl) ?_
    refine wp_seq ?_
    refine lwp_list ?_
    refine ls_d (d := some 10) (by kernel_rfl) (by kernel_rfl) HA (d_slit (zc := #[]) Tryd.underlying22 Tryd.sizeOf32 (by decide) (.inl ⟨(by kernel_rfl), (by kernel_rfl)⟩) (by kernel_rfl) (by kernel_rfl) H) (fun x10 h_1 w_1 H HA_1 => ?_)
    refine ls_move (x := x0) (by kernel_rfl) (by kernel_rfl) ?_
    refine ls_d (d := some 12) (by kernel_rfl) (by kernel_rfl) HA_1 (d_app (z := #[.int .i32 0, .int .i64 0, .int .i64 0, .int .i64 0]) Tryd.underlying22 Tryd.underlying22 (.inl ⟨_, rfl⟩) Tryd.typeInfo32 (by kernel_rfl) Tryd.sizeOf32 Tryd.zeroValue32 (by kernel_rfl) (by kernel_rfl) (by kernel_rfl) H) (fun x12 h_2 w_2 H HA_2 => ?_)
    refine ls_move (x := x1) (by kernel_rfl) (by kernel_rfl) ?_
    refine ls_p (d := some 14) (by kernel_rfl) (by kernel_rfl) (p_conv Tryd.underlying5 Tryd.underlying3 (by kernel_rfl) H) (fun x14 H => ?_)
    refine ls_p (d := some 15) (by kernel_rfl) (by kernel_rfl) (p_rem (by kernel_rfl) (by kernel_rfl) H) (fun x15 H => ?_)
    refine ls_fr (b := ⟨#[x0, x1, undef, undef, (.bool false), undef, x0, x7, x8, undef, x10, x0, x12, x1, x14, x15, undef, undef, undef, undef, undef, undef, undef, undef, undef, undef, undef, undef, undef, undef, undef, undef], []⟩) (by kernel_rfl) ?_
    refine ls_d (d := some 16) (by kernel_rfl) (by kernel_rfl) HA_2 (d_appz (z := #[.int .i32 0, .int .i64 0, .int .i64 0, .int .i64 0]) Tryd.underlying22 Tryd.underlying3 Tryd.typeInfo32 (by kernel_rfl) Tryd.sizeOf32 Tryd.zeroValue32 (by kernel_rfl) (by kernel_rfl) (by kernel_rfl) H) (fun x16 h_3 w_3 H HA_3 => ?_)
    refine ls_assign (x := x16) (by kernel_rfl) (by kernel_rfl) ?_
    refine ls_nil ?_
    refine then_normal ?_
    refine fr_eq (b := ⟨#[x0, x1, undef, undef, (.bool false), x16, x0, x7, x8, undef, x10, x0, x12, x1, x14, x15, x16, undef, undef, undef, undef, undef, undef, undef, undef, undef, undef, undef, undef, undef, undef, undef], []⟩) (by kernel_rfl) ?_
    refine wp_seq ?_
    refine lwp_list ?_
    refine ls_move (x := x0) (by kernel_rfl) (by kernel_rfl) ?_
    refine ls_d (d := some 18) (by kernel_rfl) (by kernel_rfl) HA_3 (d_call (by kernel_rfl) (by kernel_rfl) H) (fun x18 h_4 w_4 H HA_4 => ?_)
    refine ls_move (x := x0) (by kernel_rfl) (by kernel_rfl) ?_
    refine ls_d (d := some 20) (by kernel_rfl) (by kernel_rfl) HA_4 (d_call (by kernel_rfl) (by kernel_rfl) H) (fun x20 h_5 w_5 H HA_5 => ?_)
    refine ls_p (d := some 21) (by kernel_rfl) (by kernel_rfl) (p_sEqlS (by kernel_rfl) (by kernel_rfl) H) (fun x21 H => ?_)
    refine ls_move (x := x21) (by kernel_rfl) (by kernel_rfl) ?_
    refine ls_fr (b := ⟨#[x0, x1, undef, undef, (.bool false), x16, x0, x7, x8, undef, x10, x0, x12, x1, x14, x15, x16, x0, x18, x0, x20, x21, x21, undef, undef, undef, undef, undef, undef, undef, undef, undef], []⟩) (by kernel_rfl) ?_
    refine ls_andh [(), (), (), (), (), ()] (fun K a w => ∃ (D : Nat → Value) (x28 : Value) (h_6 : Heap), a = ⟨#[x0, x1, undef, undef, (.bool false), x16, x0, x7, x8, undef, x10, x0, x12, x1, x14, x15, x16, x0, x18, x0, x20, x21, x21, (D 0), (D 1), (D 2), (D 3), (D 4), x28, undef, undef, undef], []⟩ ∧ At w0 w h_6 ∧ K x28 h_6) H (fun hb_1 H => ?_) (fun hb_1 H => ?_) ?_
    · refine ls_move (x := x16) (by rw [hb_1]; kernel_rfl) (by kernel_rfl) ?_
      refine ls_d (d := some 24) (by kernel_rfl) (by rw [hb_1]; kernel_rfl) HA_5 (d_call (by kernel_rfl) (by kernel_rfl) H) (fun x24 h_9 w_9 H HA_9 => ?_)
      refine ls_move (x := x0) (by rw [hb_1]; kernel_rfl) (by kernel_rfl) ?_
      refine ls_d (d := some 26) (by kernel_rfl) (by rw [hb_1]; kernel_rfl) HA_9 (d_call (by kernel_rfl) (by kernel_rfl) H) (fun x26 h_10 w_10 H HA_10 => ?_)
      refine ls_p (d := some 27) (by kernel_rfl) (by rw [hb_1]; kernel_rfl) (p_sEqlS (by kernel_rfl) (by kernel_rfl) H) (fun x27 H => ?_)
      refine ls_pick_t (x := x27) (by kernel_rfl) (by rw [hb_1]; kernel_rfl) (by kernel_rfl) ?_
      refine ls_nil ?_
      refine then_normal ?_
      exact ⟨(fun i => ([x16, x24, x0, x26, x27]).getD i undef), x27, h_10, by kernel_rfl, HA_10, H⟩
    · refine ls_skip (d := some 23) (by kernel_rfl) (by rw [hb_1]; kernel_rfl) ?_
      refine ls_skip (d := some 24) (by kernel_rfl) (by rw [hb_1]; kernel_rfl) ?_
      refine ls_skip (d := some 25) (by kernel_rfl) (by rw [hb_1]; kernel_rfl) ?_
      refine ls_skip (d := some 26) (by kernel_rfl) (by rw [hb_1]; kernel_rfl) ?_
      refine ls_skip (d := some 27) (by kernel_rfl) (by rw [hb_1]; kernel_rfl) ?_
      refine ls_pick_f (y := (.bool false)) (by kernel_rfl) (by rw [hb_1]; kernel_rfl) (by kernel_rfl) ?_
      refine ls_nil ?_
      refine then_normal ?_
      exact ⟨(fun i => ([undef, undef, undef, undef, undef]).getD i undef), (.bool false), h_5, by kernel_rfl, HA_5, H⟩
    · rintro _ w_6 ⟨D, x28, h_6, rfl, HA_6, H⟩
      refine ls_move (x := x28) (by kernel_rfl) (by kernel_rfl) ?_
      refine ls_andh [(), ()] (fun K a w => ∃ (D_1 : Nat → Value) (x31 : Value) (h_7 : Heap), a = ⟨#[x0, x1, undef, undef, (.bool false), x16, x0, x7, x8, undef, x10, x0, x12, x1, x14, x15, x16, x0, x18, x0, x20, x21, x21, (D 0), (D 1), (D 2), (D 3), (D 4), x28, x28, (D_1 0), x31], []⟩ ∧ At w0 w h_7 ∧ K x31 h_7) H (fun hb H => ?_) (fun hb H => ?_) ?_
      · refine ls_d (d := some 30) (by kernel_rfl) (by rw [hb]; kernel_rfl) HA_6 (d_call (by kernel_rfl) (by kernel_rfl) H) (fun x30 h_8 w_8 H HA_8 => ?_)
        refine ls_pick_t (x := x30) (by kernel_rfl) (by rw [hb]; kernel_rfl) (by kernel_rfl) ?_
        refine ls_nil ?_
        refine then_normal ?_
        exact ⟨(fun i => ([x30]).getD i undef), x30, h_8, by kernel_rfl, HA_8, H⟩
      · refine ls_skip (d := some 30) (by kernel_rfl) (by rw [hb]; kernel_rfl) ?_
        refine ls_pick_f (y := (.bool false)) (by kernel_rfl) (by rw [hb]; kernel_rfl) (by kernel_rfl) ?_
        refine ls_nil ?_
        refine then_normal ?_
        exact ⟨(fun i => ([undef]).getD i undef), (.bool false), h_6, by kernel_rfl, HA_6, H⟩
      · rintro _ w_7 ⟨D_1, x31, h_7, rfl, HA_7, H⟩
        refine ls_assign (x := x31) (by kernel_rfl) (by kernel_rfl) ?_
        refine ls_nil ?_
        refine then_normal ?_
        refine fr_eq (b := ⟨#[x0, x1, undef, undef, x31, x16, x0, x7, x8, undef, x10, x0, x12, x1, x14, x15, x16, x0, x18, x0, x20, x21, x21, (D 0), (D 1), (D 2), (D 3), (D 4), x28, x28, (D_1 0), x31], []⟩) (by kernel_rfl) ?_
        refine wp_ret ?_
        exact end1 (Tryd.results3) (by kernel_rfl) (by kernel_rfl) HA_7 H _ (.inr rfl)

end Go.Proofs.YtjlpgakoedigoaaDoor
