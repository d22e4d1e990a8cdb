/- The shallow reading of one function, and that the function does it. Written by a program. -/
import Derived.Test.YtjlpgakoedigoaaDoorFnC
set_option linter.unusedVariables false
namespace Go.Proofs.YtjlpgakoedigoaaDoor
open Go Go.HW

def betonyref26_Push_j1 (R : Value → Heap → Prop) (x7 : Value) (h_3 : Heap) : Prop :=
  R x7 h_3
def betonyref26_Push_S (x0 x1 x2 : Value) (h : Heap) (R : Value → Heap → Prop) : Prop :=
  betonyref26_Cut_c x2 h fun x9 h => 
  sSlit h #[.slice none 0 0] [(0, 1, x9)] 22 1 fun x10 h_1 => 
  sApp h_1 x10 x0 #[.slice none 0 0] 22 24 fun x12 h_2 => 
  sLen x12 fun x14 =>
  sGt x14 x1 fun x16 =>
  sIf x16 (sSl x12 none (some x1) 1 fun x19 =>
  betonyref26_Push_j1 R x19 h_2) (betonyref26_Push_j1 R x12 h_2)
set_option maxRecDepth 100000 in
theorem betonyref26_Push_runs {x0 x1 x2 : Value} {h : Heap} {R : Value → Heap → Prop} (H : betonyref26_Push_S x0 x1 x2 h R) : betonyref26_Push_c x0 x1 x2 h R := by
  unfold betonyref26_Push_S at H
  refine runs_of (b := ⟨#[x0, x1, x2, undef, undef, undef, undef, undef, undef, undef, undef, undef, undef, undef, undef, undef, undef, undef, undef, undef, undef], []⟩) Tryd.call18 Tryd.func18 rfl (by kernel_rfl) (fun w0 HA => ?_)
  refine wp_seq ?_
  refine lwp_list ?_
  refine ls_assign (x := (.slice none 0 0)) (by kernel_rfl) (by kernel_rfl) ?_
  refine ls_nil ?_
  refine then_normal ?_
  refine fr_eq (b := ⟨#[x0, x1, x2, undef, undef, undef, (.slice none 0 0), undef, undef, undef, undef, undef, undef, undef, undef, undef, undef, undef, undef, undef, undef], []⟩) (by kernel_rfl) ?_
  refine wp_seq ?_
  refine lwp_list ?_
  refine ls_move (x := x2) (by kernel_rfl) (by kernel_rfl) ?_
  refine ls_d (d := some 9) (by kernel_rfl) (by kernel_rfl) HA (d_call (by kernel_rfl) (by kernel_rfl) H) (fun x9 h w H HA => ?_)
  refine ls_d (d := some 10) (by kernel_rfl) (by kernel_rfl) HA (d_slit (zc := #[.slice none 0 0]) Tryd.underlying39 Tryd.sizeOf22 (by decide) (.inr ⟨by decide, _, Tryd.zeroValue22, (by kernel_rfl)⟩) (by kernel_rfl) (by kernel_rfl) H) (fun x10 h_1 w_1 H HA_1 => ?_)
  refine ls_move (x := x0) (by kernel_rfl) (by kernel_rfl) ?_
  refine ls_d (d := some 12) (by kernel_rfl) (by kernel_rfl) HA_1 (d_app (z := #[.slice none 0 0]) Tryd.underlying39 Tryd.underlying39 (.inl ⟨_, rfl⟩) Tryd.typeInfo22 (by kernel_rfl) Tryd.sizeOf22 Tryd.zeroValue22 (by kernel_rfl) (by kernel_rfl) (by kernel_rfl) H) (fun x12 h_2 w_2 H HA_2 => ?_)
  refine ls_assign (x := x12) (by kernel_rfl) (by kernel_rfl) ?_
  refine ls_nil ?_
  refine then_normal ?_
  refine fr_eq (b := ⟨#[x0, x1, x2, undef, undef, undef, (.slice none 0 0), x12, x2, x9, x10, x0, x12, undef, undef, undef, undef, undef, undef, undef, undef], []⟩) (by kernel_rfl) ?_
  refine wp_seq ?_
  refine wp_seq ?_
  refine lwp_list ?_
  refine ls_move (x := x12) (by kernel_rfl) (by kernel_rfl) ?_
  refine ls_p (d := some 14) (by kernel_rfl) (by kernel_rfl) (p_len Tryd.underlying39 (by kernel_rfl) H) (fun x14 H => ?_)
  refine ls_move (x := x1) (by kernel_rfl) (by kernel_rfl) ?_
  refine ls_p (d := some 16) (by kernel_rfl) (by kernel_rfl) (p_sGt (by kernel_rfl) (by kernel_rfl) H) (fun x16 H => ?_)
  refine ls_nil ?_
  refine then_normal ?_
  refine fr_eq (b := ⟨#[x0, x1, x2, undef, undef, undef, (.slice none 0 0), x12, x2, x9, x10, x0, x12, x12, x14, x1, x16, undef, undef, undef, undef], []⟩) (by kernel_rfl) ?_
  refine wp_join (fun a w => ∃ (D : Nat → Value) (x7 : Value) (h_3 : Heap), a = ⟨#[x0, x1, x2, undef, undef, undef, (.slice none 0 0), x7, x2, x9, x10, x0, x12, x12, x14, x1, x16, (D 0), (D 1), (D 2), undef], []⟩ ∧ At w0 w h_3 ∧ betonyref26_Push_j1 R x7 h_3) ?_ ?_
  · refine wp_if rfl H (fun H => ?_) (fun H => ?_)
    · refine lwp_list ?_
      refine ls_move (x := x12) (by kernel_rfl) (by kernel_rfl) ?_
      refine ls_move (x := x1) (by kernel_rfl) (by kernel_rfl) ?_
      refine ls_p (d := some 19) (by kernel_rfl) (by kernel_rfl) (p_sl Tryd.underlying39 Tryd.sizeOf22 (by kernel_rfl) (by kernel_rfl) (by kernel_rfl) H) (fun x19 H => ?_)
      refine ls_assign (x := x19) (by kernel_rfl) (by kernel_rfl) ?_
      refine ls_nil ?_
      exact ⟨(fun i => ([x12, x1, x19]).getD i undef), x19, h_2, by kernel_rfl, HA_2, H⟩
    · refine wp_skip ?_
      exact ⟨(fun i => ([undef, undef, undef]).getD i undef), x12, h_2, by kernel_rfl, HA_2, H⟩
  · rintro _ w_3 ⟨D, x7, h_3, rfl, HA_3, H⟩
    unfold betonyref26_Push_j1 at H
    refine then_normal ?_
    refine fr_eq (b := ⟨#[x0, x1, x2, undef, undef, undef, (.slice none 0 0), x7, x2, x9, x10, x0, x12, x12, x14, x1, x16, (D 0), (D 1), (D 2), undef], []⟩) (by kernel_rfl) ?_
    refine wp_seq ?_
    refine lwp_list ?_
    refine ls_move (x := x7) (by kernel_rfl) (by kernel_rfl) ?_
    refine ls_assign (x := x7) (by kernel_rfl) (by kernel_rfl) ?_
    refine ls_nil ?_
    refine then_normal ?_
    refine fr_eq (b := ⟨#[x0, x1, x2, undef, undef, undef, x7, x7, x2, x9, x10, x0, x12, x12, x14, x1, x16, (D 0), (D 1), (D 2), x7], []⟩) (by kernel_rfl) ?_
    refine wp_ret ?_
    exact end1 (Tryd.results18) (by kernel_rfl) (by kernel_rfl) HA_3 H _ (.inr rfl)

end Go.Proofs.YtjlpgakoedigoaaDoor
