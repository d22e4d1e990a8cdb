/- The shallow reading of one function, and that the function does it. Written by a program. -/
import Derived.Test.YtjlpgakoedigoaaDoorFnC
set_option linter.unusedVariables false
namespace Go.Proofs.YtjlpgakoedigoaaDoor
open Go Go.HW

def strings_TrimRight_S (x0 x1 : Value) (h : Heap) (R : Value → Heap → Prop) : Prop :=
  sEqlS x0 (.string ⟨#[]⟩) fun x8 =>
  sOr x8 (fun k_1 =>
  sEqlS x1 (.string ⟨#[]⟩) fun x11 =>
  k_1 x11) fun x12 =>
  sIf x12 (R x0 h) (sLenB x1 fun x15 =>
  sEq x15 (.int .i64 1) fun x16 =>
  sAnd x16 (fun k =>
  sIxB x1 (.int .i64 0) fun x19 =>
  sLt x19 (.int .u8 128) fun x20 =>
  k x20) fun x21 =>
  sIf x21 (sIxB x1 (.int .i64 0) fun x24 =>
  strings_trimRightByte_c x0 x24 h fun x25 h => 
  R x25 h) (False))
set_option maxRecDepth 100000 in
theorem strings_TrimRight_runs {x0 x1 : Value} {h : Heap} {R : Value → Heap → Prop} (H : strings_TrimRight_S x0 x1 h R) : strings_TrimRight_c x0 x1 h R := by
  unfold strings_TrimRight_S at H
  refine runs_of (b := ⟨#[x0, x1, undef, undef, undef, undef, undef, undef, undef, undef, undef, undef, undef, undef, undef, undef, undef, undef, undef, undef, undef, undef, undef, undef, undef, undef, undef, undef, undef, undef, undef, undef, undef, undef, undef, undef, undef], []⟩) Tryd.call22 Tryd.func22 rfl (by kernel_rfl) (fun w0 HA => ?_)
  refine wp_seq ?_
  refine lwp_list ?_
  refine ls_assign (x := (.string ⟨#[]⟩)) (by kernel_rfl) (by kernel_rfl) ?_
  refine ls_nil ?_
  refine then_normal ?_
  refine fr_eq (b := ⟨#[x0, x1, undef, undef, (.string ⟨#[]⟩), undef, undef, undef, undef, undef, undef, undef, undef, undef, undef, undef, undef, undef, undef, undef, undef, undef, undef, undef, undef, undef, undef, undef, undef, undef, undef, undef, undef, undef, undef, undef, undef], []⟩) (by kernel_rfl) ?_
  refine wp_seq ?_
  refine wp_seq ?_
  refine lwp_list ?_
  refine ls_move (x := x0) (by kernel_rfl) (by kernel_rfl) ?_
  refine ls_p (d := some 8) (by kernel_rfl) (by kernel_rfl) (p_sEqlS (by kernel_rfl) (by kernel_rfl) H) (fun x8 H => ?_)
  refine ls_move (x := x8) (by kernel_rfl) (by kernel_rfl) ?_
  refine ls_or [(), (), ()] (fun K a w => ∃ (D : Nat → Value) (x12 : Value), a = ⟨#[x0, x1, undef, undef, (.string ⟨#[]⟩), undef, undef, x0, x8, x8, (D 0), (D 1), x12, undef, undef, undef, undef, undef, undef, undef, undef, undef, undef, undef, undef, undef, undef, undef, undef, undef, undef, undef, undef, undef, undef, undef, undef], []⟩ ∧ At w0 w h ∧ K x12) H (fun hb_1 H => ?_) (fun hb_1 H => ?_) ?_
  · refine ls_move (x := x1) (by rw [hb_1]; kernel_rfl) (by kernel_rfl) ?_
    refine ls_p (d := some 11) (by kernel_rfl) (by rw [hb_1]; kernel_rfl) (p_sEqlS (by kernel_rfl) (by kernel_rfl) H) (fun x11 H => ?_)
    refine ls_pick_f (y := x11) (by kernel_rfl) (by rw [hb_1]; kernel_rfl) (by kernel_rfl) ?_
    refine ls_nil ?_
    refine then_normal ?_
    exact ⟨(fun i => ([x1, x11]).getD i undef), x11, by kernel_rfl, HA, H⟩
  · refine ls_skip (d := some 10) (by kernel_rfl) (by rw [hb_1]; kernel_rfl) ?_
    refine ls_skip (d := some 11) (by kernel_rfl) (by rw [hb_1]; kernel_rfl) ?_
    refine ls_pick_t (x := (.bool true)) (by kernel_rfl) (by rw [hb_1]; kernel_rfl) (by kernel_rfl) ?_
    refine ls_nil ?_
    refine then_normal ?_
    exact ⟨(fun i => ([undef, undef]).getD i undef), (.bool true), by kernel_rfl, HA, H⟩
  · rintro _ w ⟨D, x12, rfl, HA, H⟩
    refine ls_nil ?_
    refine then_normal ?_
    refine fr_eq (b := ⟨#[x0, x1, undef, undef, (.string ⟨#[]⟩), undef, undef, x0, x8, x8, (D 0), (D 1), x12, undef, undef, undef, undef, undef, undef, undef, undef, undef, undef, undef, undef, undef, undef, undef, undef, undef, undef, undef, undef, undef, undef, undef, undef], []⟩) (by kernel_rfl) ?_
    refine wp_if rfl H (fun H => ?_) (fun H => ?_)
    · refine wp_seq ?_
      refine lwp_list ?_
      refine ls_move (x := x0) (by kernel_rfl) (by kernel_rfl) ?_
      refine ls_assign (x := x0) (by kernel_rfl) (by kernel_rfl) ?_
      refine ls_nil ?_
      refine then_normal ?_
      refine fr_eq (b := ⟨#[x0, x1, undef, undef, x0, undef, undef, x0, x8, x8, (D 0), (D 1), x12, x0, undef, undef, undef, undef, undef, undef, undef, undef, undef, undef, undef, undef, undef, undef, undef, undef, undef, undef, undef, undef, undef, undef, undef], []⟩) (by kernel_rfl) ?_
      refine wp_ret ?_
      refine then_ret ?_
      exact end1 (Tryd.results22) (by kernel_rfl) (by kernel_rfl) HA H _ (.inr rfl)
    · refine wp_skip ?_
      refine then_normal ?_
      refine fr_eq (b := ⟨#[x0, x1, undef, undef, (.string ⟨#[]⟩), undef, undef, x0, x8, x8, (D 0), (D 1), x12, undef, undef, undef, undef, undef, undef, undef, undef, undef, undef, undef, undef, undef, undef, undef, undef, undef, undef, undef, undef, undef, undef, undef, undef], []⟩) (by kernel_rfl) ?_
      refine wp_seq ?_
      refine wp_seq ?_
      refine lwp_list ?_
      refine ls_move (x := x1) (by kernel_rfl) (by kernel_rfl) ?_
      refine ls_p (d := some 15) (by kernel_rfl) (by kernel_rfl) (p_lenb Tryd.underlying9 (by kernel_rfl) H) (fun x15 H => ?_)
      refine ls_p (d := some 16) (by kernel_rfl) (by kernel_rfl) (p_sEq (by kernel_rfl) (by kernel_rfl) H) (fun x16 H => ?_)
      refine ls_move (x := x16) (by kernel_rfl) (by kernel_rfl) ?_
      refine ls_and [(), (), (), ()] (fun K a w => ∃ (D_1 : Nat → Value) (x21 : Value), a = ⟨#[x0, x1, undef, undef, (.string ⟨#[]⟩), undef, undef, x0, x8, x8, (D 0), (D 1), x12, undef, x1, x15, x16, x16, (D_1 0), (D_1 1), (D_1 2), x21, undef, undef, undef, undef, undef, undef, undef, undef, undef, undef, undef, undef, undef, undef, undef], []⟩ ∧ At w0 w h ∧ K x21) H (fun hb H => ?_) (fun hb H => ?_) ?_
      · refine ls_move (x := x1) (by rw [hb]; kernel_rfl) (by kernel_rfl) ?_
        refine ls_p (d := some 19) (by kernel_rfl) (by rw [hb]; kernel_rfl) (p_ixb Tryd.underlying9 (by kernel_rfl) (by kernel_rfl) H) (fun x19 H => ?_)
        refine ls_fr (b := ⟨#[x0, x1, undef, undef, (.string ⟨#[]⟩), undef, undef, x0, x8, x8, (D 0), (D 1), x12, undef, x1, x15, x16, x16, x1, x19, undef, undef, undef, undef, undef, undef, undef, undef, undef, undef, undef, undef, undef, undef, undef, undef, undef], []⟩) (by kernel_rfl) ?_
        refine ls_p (d := some 20) (by kernel_rfl) (by rw [hb]; kernel_rfl) (p_sLt (by kernel_rfl) (by kernel_rfl) H) (fun x20 H => ?_)
        refine ls_pick_t (x := x20) (by kernel_rfl) (by rw [hb]; kernel_rfl) (by kernel_rfl) ?_
        refine ls_nil ?_
        refine then_normal ?_
        exact ⟨(fun i => ([x1, x19, x20]).getD i undef), x20, by kernel_rfl, HA, H⟩
      · refine ls_skip (d := some 18) (by kernel_rfl) (by rw [hb]; kernel_rfl) ?_
        refine ls_skip (d := some 19) (by kernel_rfl) (by rw [hb]; kernel_rfl) ?_
        refine ls_fr (b := ⟨#[x0, x1, undef, undef, (.string ⟨#[]⟩), undef, undef, x0, x8, x8, (D 0), (D 1), x12, undef, x1, x15, x16, x16, undef, undef, undef, undef, undef, undef, undef, undef, undef, undef, undef, undef, undef, undef, undef, undef, undef, undef, undef], []⟩) (by kernel_rfl) ?_
        refine ls_skip (d := some 20) (by kernel_rfl) (by rw [hb]; kernel_rfl) ?_
        refine ls_pick_f (y := (.bool false)) (by kernel_rfl) (by rw [hb]; kernel_rfl) (by kernel_rfl) ?_
        refine ls_nil ?_
        refine then_normal ?_
        exact ⟨(fun i => ([undef, undef, undef]).getD i undef), (.bool false), by kernel_rfl, HA, H⟩
      · rintro _ w_1 ⟨D_1, x21, rfl, HA_1, H⟩
        refine ls_nil ?_
        refine then_normal ?_
        refine fr_eq (b := ⟨#[x0, x1, undef, undef, (.string ⟨#[]⟩), undef, undef, x0, x8, x8, (D 0), (D 1), x12, undef, x1, x15, x16, x16, (D_1 0), (D_1 1), (D_1 2), x21, undef, undef, undef, undef, undef, undef, undef, undef, undef, undef, undef, undef, undef, undef, undef], []⟩) (by kernel_rfl) ?_
        refine wp_if rfl H (fun H => ?_) (fun H => ?_)
        · refine wp_seq ?_
          refine lwp_list ?_
          refine ls_move (x := x0) (by kernel_rfl) (by kernel_rfl) ?_
          refine ls_move (x := x1) (by kernel_rfl) (by kernel_rfl) ?_
          refine ls_p (d := some 24) (by kernel_rfl) (by kernel_rfl) (p_ixb Tryd.underlying9 (by kernel_rfl) (by kernel_rfl) H) (fun x24 H => ?_)
          refine ls_d (d := some 25) (by kernel_rfl) (by kernel_rfl) HA_1 (d_call (by kernel_rfl) (by kernel_rfl) H) (fun x25 h w_2 H HA_2 => ?_)
          refine ls_assign (x := x25) (by kernel_rfl) (by kernel_rfl) ?_
          refine ls_nil ?_
          refine then_normal ?_
          refine fr_eq (b := ⟨#[x0, x1, undef, undef, x25, undef, undef, x0, x8, x8, (D 0), (D 1), x12, undef, x1, x15, x16, x16, (D_1 0), (D_1 1), (D_1 2), x21, x0, x1, x24, x25, undef, undef, undef, undef, undef, undef, undef, undef, undef, undef, undef], []⟩) (by kernel_rfl) ?_
          refine wp_ret ?_
          refine then_ret ?_
          exact end1 (Tryd.results22) (by kernel_rfl) (by kernel_rfl) HA_2 H _ (.inr rfl)
        · refine wp_skip ?_
          refine then_normal ?_
          refine fr_eq (b := ⟨#[x0, x1, undef, undef, (.string ⟨#[]⟩), undef, undef, x0, x8, x8, (D 0), (D 1), x12, undef, x1, x15, x16, x16, (D_1 0), (D_1 1), (D_1 2), x21, undef, undef, undef, undef, undef, undef, undef, undef, undef, undef, undef, undef, undef, undef, undef], []⟩) (by kernel_rfl) ?_
          refine wp_seq ?_
          refine wp_seq ?_
          exact H.elim

end Go.Proofs.YtjlpgakoedigoaaDoor
