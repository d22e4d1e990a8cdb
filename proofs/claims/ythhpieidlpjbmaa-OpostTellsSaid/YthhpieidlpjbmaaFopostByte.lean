/- The shallow reading of one function, and that the function does it. Written by a program. -/
import Derived.Test.YthhpieidlpjbmaaFnC
set_option linter.unusedVariables false
namespace Go.Proofs.Ythhpieidlpjbmaa
open Go Go.HW

def opost_Byte_j1 (R : Value → Heap → Prop) (x0 x2 x1_1 : Value) (h : Heap) : Prop :=
  sBits .and .i64 x0 (.int .i64 1) fun x15 =>
  sNe x15 (.int .i64 0) fun x16 =>
  sIf x16 (opost_post_c x0 x1_1 x2 h fun x20 h_1 => 
  sTup x20 0 fun x21 =>
  sTup x20 1 fun x22 =>
  R (.tuple #[x21, x22]) h_1) (opost_post_c (.int .i64 1) x1_1 x2 h fun x26 h_2 => 
  sTup x26 0 fun x27 =>
  sTup x26 1 fun x28 =>
  sSlit h_2 #[.int .u8 0] [(0, 1, x2)] 5 1 fun x30 h_3 => 
  R (.tuple #[x30, x28]) h_3)
def opost_Byte_S (x0 x1 x2 : Value) (h : Heap) (R : Value → Heap → Prop) : Prop :=
  sLt x1 (.int .i64 0) fun x9 =>
  sOr x9 (fun k =>
  sGt x1 (.int .i64 1073741824) fun x12 =>
  k x12) fun x13 =>
  sIf x13 (opost_Byte_j1 R x0 x2 (.int .i64 0) h) (opost_Byte_j1 R x0 x2 x1 h)
set_option maxRecDepth 100000 in
theorem opost_Byte_runs {x0 x1 x2 : Value} {h : Heap} {R : Value → Heap → Prop} (H : opost_Byte_S x0 x1 x2 h R) : opost_Byte_c x0 x1 x2 h R := by
  unfold opost_Byte_S at H
  refine runs_of (b := ⟨#[x0, x1, x2, undef, undef, undef, undef, undef, undef, undef, undef, undef, undef, undef, undef, undef, undef, undef, undef, undef, undef, undef, undef, undef, undef, undef, undef, undef, undef, undef, undef, undef], []⟩) Try.call34 Try.func34 rfl (by kernel_rfl) (fun w0 HA => ?_)
  refine wp_seq ?_
  refine lwp_list ?_
  refine ls_assign (x := (.slice none 0 0)) (by kernel_rfl) (by kernel_rfl) ?_
  refine ls_assign (x := (.int .i64 0)) (by kernel_rfl) (by kernel_rfl) ?_
  refine ls_nil ?_
  refine then_normal ?_
  refine fr_eq (b := ⟨#[x0, x1, x2, undef, undef, undef, (.slice none 0 0), (.int .i64 0), undef, undef, undef, undef, undef, undef, undef, undef, undef, undef, undef, undef, undef, undef, undef, undef, undef, undef, undef, undef, undef, undef, undef, undef], []⟩) (by kernel_rfl) ?_
  refine wp_seq ?_
  refine wp_seq ?_
  refine lwp_list ?_
  refine ls_move (x := x1) (by kernel_rfl) (by kernel_rfl) ?_
  refine ls_p (d := some 9) (by kernel_rfl) (by kernel_rfl) (p_sLt (by kernel_rfl) (by kernel_rfl) H) (fun x9 H => ?_)
  refine ls_move (x := x9) (by kernel_rfl) (by kernel_rfl) ?_
  refine ls_or [(), (), ()] (fun K a w => ∃ (D : Nat → Value) (x13 : Value), a = ⟨#[x0, x1, x2, undef, undef, undef, (.slice none 0 0), (.int .i64 0), x1, x9, x9, (D 0), (D 1), x13, undef, undef, undef, undef, undef, undef, undef, undef, undef, undef, undef, undef, undef, undef, undef, undef, undef, undef], []⟩ ∧ At w0 w h ∧ K x13) H (fun hb H => ?_) (fun hb H => ?_) ?_
  · refine ls_move (x := x1) (by rw [hb]; kernel_rfl) (by kernel_rfl) ?_
    refine ls_p (d := some 12) (by kernel_rfl) (by rw [hb]; kernel_rfl) (p_sGt (by kernel_rfl) (by kernel_rfl) H) (fun x12 H => ?_)
    refine ls_pick_f (y := x12) (by kernel_rfl) (by rw [hb]; kernel_rfl) (by kernel_rfl) ?_
    refine ls_nil ?_
    refine then_normal ?_
    exact ⟨(fun i => ([x1, x12]).getD i undef), x12, by kernel_rfl, HA, H⟩
  · refine ls_skip (d := some 11) (by kernel_rfl) (by rw [hb]; kernel_rfl) ?_
    refine ls_skip (d := some 12) (by kernel_rfl) (by rw [hb]; kernel_rfl) ?_
    refine ls_pick_t (x := (.bool true)) (by kernel_rfl) (by rw [hb]; kernel_rfl) (by kernel_rfl) ?_
    refine ls_nil ?_
    refine then_normal ?_
    exact ⟨(fun i => ([undef, undef]).getD i undef), (.bool true), by kernel_rfl, HA, H⟩
  · rintro _ w ⟨D, x13, rfl, HA, H⟩
    refine ls_nil ?_
    refine then_normal ?_
    refine fr_eq (b := ⟨#[x0, x1, x2, undef, undef, undef, (.slice none 0 0), (.int .i64 0), x1, x9, x9, (D 0), (D 1), x13, undef, undef, undef, undef, undef, undef, undef, undef, undef, undef, undef, undef, undef, undef, undef, undef, undef, undef], []⟩) (by kernel_rfl) ?_
    refine wp_join (fun a w => ∃ (D_1 : Nat → Value) (x1_1 : Value) (h : Heap), a = ⟨#[x0, x1_1, x2, undef, undef, undef, (.slice none 0 0), (.int .i64 0), x1, x9, x9, (D 0), (D 1), x13, undef, undef, undef, undef, undef, undef, undef, undef, undef, undef, undef, undef, undef, undef, undef, undef, undef, undef], []⟩ ∧ At w0 w h ∧ opost_Byte_j1 R x0 x2 x1_1 h) ?_ ?_
    · refine wp_if rfl H (fun H => ?_) (fun H => ?_)
      · refine lwp_list ?_
        refine ls_assign (x := (.int .i64 0)) (by kernel_rfl) (by kernel_rfl) ?_
        refine ls_nil ?_
        exact ⟨(fun i => ([]).getD i undef), (.int .i64 0), h, by kernel_rfl, HA, H⟩
      · refine wp_skip ?_
        exact ⟨(fun i => ([]).getD i undef), x1, h, by kernel_rfl, HA, H⟩
    · rintro _ w_1 ⟨D_1, x1_1, h, rfl, HA_1, H⟩
      unfold opost_Byte_j1 at H
      refine then_normal ?_
      refine fr_eq (b := ⟨#[x0, x1_1, x2, undef, undef, undef, (.slice none 0 0), (.int .i64 0), x1, x9, x9, (D 0), (D 1), x13, undef, undef, undef, undef, undef, undef, undef, undef, undef, undef, undef, undef, undef, undef, undef, undef, undef, undef], []⟩) (by kernel_rfl) ?_
      refine wp_seq ?_
      refine wp_seq ?_
      refine lwp_list ?_
      refine ls_move (x := x0) (by kernel_rfl) (by kernel_rfl) ?_
      refine ls_p (d := some 15) (by kernel_rfl) (by kernel_rfl) (p_bits (by decide) (by kernel_rfl) (by kernel_rfl) H) (fun x15 H => ?_)
      refine ls_p (d := some 16) (by kernel_rfl) (by kernel_rfl) (p_sNe (by kernel_rfl) (by kernel_rfl) H) (fun x16 H => ?_)
      refine ls_nil ?_
      refine then_normal ?_
      refine fr_eq (b := ⟨#[x0, x1_1, x2, undef, undef, undef, (.slice none 0 0), (.int .i64 0), x1, x9, x9, (D 0), (D 1), x13, x0, x15, x16, undef, undef, undef, undef, undef, undef, undef, undef, undef, undef, undef, undef, undef, undef, undef], []⟩) (by kernel_rfl) ?_
      refine wp_if rfl H (fun H => ?_) (fun H => ?_)
      · refine wp_seq ?_
        refine lwp_list ?_
        refine ls_move (x := x0) (by kernel_rfl) (by kernel_rfl) ?_
        refine ls_move (x := x1_1) (by kernel_rfl) (by kernel_rfl) ?_
        refine ls_move (x := x2) (by kernel_rfl) (by kernel_rfl) ?_
        refine ls_d (d := some 20) (by kernel_rfl) (by kernel_rfl) HA_1 (d_call (by kernel_rfl) (by kernel_rfl) H) (fun x20 h_1 w_2 H HA_2 => ?_)
        refine ls_p (d := some 21) (by kernel_rfl) (by kernel_rfl) (p_tup (by kernel_rfl) H) (fun x21 H => ?_)
        refine ls_p (d := some 22) (by kernel_rfl) (by kernel_rfl) (p_tup (by kernel_rfl) H) (fun x22 H => ?_)
        refine ls_fr (b := ⟨#[x0, x1_1, x2, undef, undef, undef, (.slice none 0 0), (.int .i64 0), x1, x9, x9, (D 0), (D 1), x13, x0, x15, x16, x0, x1_1, x2, x20, x21, x22, undef, undef, undef, undef, undef, undef, undef, undef, undef], []⟩) (by kernel_rfl) ?_
        refine ls_assign (x := x21) (by kernel_rfl) (by kernel_rfl) ?_
        refine ls_assign (x := x22) (by kernel_rfl) (by kernel_rfl) ?_
        refine ls_nil ?_
        refine then_normal ?_
        refine fr_eq (b := ⟨#[x0, x1_1, x2, undef, undef, undef, x21, x22, x1, x9, x9, (D 0), (D 1), x13, x0, x15, x16, x0, x1_1, x2, x20, x21, x22, undef, undef, undef, undef, undef, undef, undef, undef, undef], []⟩) (by kernel_rfl) ?_
        refine wp_ret ?_
        refine then_ret ?_
        exact end2 (Try.results34) (by kernel_rfl) (by kernel_rfl) (by kernel_rfl) HA_2 H _ (.inr rfl)
      · refine wp_skip ?_
        refine then_normal ?_
        refine fr_eq (b := ⟨#[x0, x1_1, x2, undef, undef, undef, (.slice none 0 0), (.int .i64 0), x1, x9, x9, (D 0), (D 1), x13, x0, x15, x16, undef, undef, undef, undef, undef, undef, undef, undef, undef, undef, undef, undef, undef, undef, undef], []⟩) (by kernel_rfl) ?_
        refine wp_seq ?_
        refine lwp_list ?_
        refine ls_move (x := x1_1) (by kernel_rfl) (by kernel_rfl) ?_
        refine ls_move (x := x2) (by kernel_rfl) (by kernel_rfl) ?_
        refine ls_d (d := some 26) (by kernel_rfl) (by kernel_rfl) HA_1 (d_call (by kernel_rfl) (by kernel_rfl) H) (fun x26 h_2 w_3 H HA_3 => ?_)
        refine ls_move (x := x26) (by kernel_rfl) (by kernel_rfl) ?_
        refine ls_p (d := some 27) (by kernel_rfl) (by kernel_rfl) (p_tup (by kernel_rfl) H) (fun x27 H => ?_)
        refine ls_p (d := some 28) (by kernel_rfl) (by kernel_rfl) (p_tup (by kernel_rfl) H) (fun x28 H => ?_)
        refine ls_fr (b := ⟨#[x0, x1_1, x2, undef, undef, undef, (.slice none 0 0), (.int .i64 0), x1, x9, x9, (D 0), (D 1), x13, x0, x15, x16, undef, undef, undef, undef, undef, undef, x26, x1_1, x2, x26, x27, x28, undef, undef, undef], []⟩) (by kernel_rfl) ?_
        refine ls_assign (x := x28) (by kernel_rfl) (by kernel_rfl) ?_
        refine ls_nil ?_
        refine then_normal ?_
        refine fr_eq (b := ⟨#[x0, x1_1, x2, undef, undef, undef, (.slice none 0 0), x28, x1, x9, x9, (D 0), (D 1), x13, x0, x15, x16, undef, undef, undef, undef, undef, undef, x26, x1_1, x2, x26, x27, x28, undef, undef, undef], []⟩) (by kernel_rfl) ?_
        refine wp_seq ?_
        refine lwp_list ?_
        refine ls_move (x := x2) (by kernel_rfl) (by kernel_rfl) ?_
        refine ls_d (d := some 30) (by kernel_rfl) (by kernel_rfl) HA_3 (d_slit (zc := #[.int .u8 0]) Try.underlying56 Try.sizeOf5 (by decide) (.inr ⟨by decide, _, Try.zeroValue5, (by kernel_rfl)⟩) (by kernel_rfl) (by kernel_rfl) H) (fun x30 h_3 w_4 H HA_4 => ?_)
        refine ls_move (x := x28) (by kernel_rfl) (by kernel_rfl) ?_
        refine ls_assign (x := x30) (by kernel_rfl) (by kernel_rfl) ?_
        refine ls_assign (x := x28) (by kernel_rfl) (by kernel_rfl) ?_
        refine ls_nil ?_
        refine then_normal ?_
        refine fr_eq (b := ⟨#[x0, x1_1, x2, undef, undef, undef, x30, x28, x1, x9, x9, (D 0), (D 1), x13, x0, x15, x16, undef, undef, undef, undef, undef, undef, x26, x1_1, x2, x26, x27, x28, x2, x30, x28], []⟩) (by kernel_rfl) ?_
        refine wp_ret ?_
        exact end2 (Try.results34) (by kernel_rfl) (by kernel_rfl) (by kernel_rfl) HA_4 H _ (.inr rfl)

end Go.Proofs.Ythhpieidlpjbmaa
