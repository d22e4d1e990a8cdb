/- The shallow reading of one function, and that the function does it. Written by a program. -/
import Derived.Test.YtjlpgakoedigoaaDoorFnC
set_option linter.unusedVariables false
namespace Go.Proofs.YtjlpgakoedigoaaDoor
open Go Go.HW

def slices_Clone_api_Cell_api_Cell_S (x0 : Value) (h : Heap) (R : Value → Heap → Prop) : Prop :=
  sEqlNilS x0 fun x4 =>
  sIf x4 (R (.slice none 0 0) h) (sSlit h #[] [] 32 0 fun x5 h => 
  sApp h x5 x0 #[.int .i32 0, .int .i64 0, .int .i64 0, .int .i64 0] 32 32 fun x7 h_1 => 
  R x7 h_1)
set_option maxRecDepth 100000 in
theorem slices_Clone_api_Cell_api_Cell_runs {x0 : Value} {h : Heap} {R : Value → Heap → Prop} (H : slices_Clone_api_Cell_api_Cell_S x0 h R) : slices_Clone_api_Cell_api_Cell_c x0 h R := by
  unfold slices_Clone_api_Cell_api_Cell_S at H
  refine runs_of (b := ⟨#[x0, undef, undef, undef, undef, undef, undef, undef], []⟩) Tryd.call25 Tryd.func25 rfl (by kernel_rfl) (fun w0 HA => ?_)
  refine wp_seq ?_
  refine lwp_list ?_
  refine ls_assign (x := (.slice none 0 0)) (by kernel_rfl) (by kernel_rfl) ?_
  refine ls_nil ?_
  refine then_normal ?_
  refine fr_eq (b := ⟨#[x0, undef, (.slice none 0 0), undef, undef, undef, undef, undef], []⟩) (by kernel_rfl) ?_
  refine wp_seq ?_
  refine wp_seq ?_
  refine lwp_list ?_
  refine ls_move (x := x0) (by kernel_rfl) (by kernel_rfl) ?_
  refine ls_p (d := some 4) (by kernel_rfl) (by kernel_rfl) (p_eqlNilS Tryd.underlying22 (by kernel_rfl) (by kernel_rfl) H) (fun x4 H => ?_)
  refine ls_nil ?_
  refine then_normal ?_
  refine fr_eq (b := ⟨#[x0, undef, (.slice none 0 0), x0, x4, undef, undef, undef], []⟩) (by kernel_rfl) ?_
  refine wp_if rfl H (fun H => ?_) (fun H => ?_)
  · refine wp_seq ?_
    refine lwp_list ?_
    refine ls_assign (x := (.slice none 0 0)) (by kernel_rfl) (by kernel_rfl) ?_
    refine ls_nil ?_
    refine then_normal ?_
    refine fr_eq (b := ⟨#[x0, undef, (.slice none 0 0), x0, x4, undef, undef, undef], []⟩) (by kernel_rfl) ?_
    refine wp_ret ?_
    refine then_ret ?_
    exact end1 (Tryd.results25) (by kernel_rfl) (by kernel_rfl) HA H _ (.inr rfl)
  · refine wp_skip ?_
    refine then_normal ?_
    refine fr_eq (b := ⟨#[x0, undef, (.slice none 0 0), x0, x4, undef, undef, undef], []⟩) (by kernel_rfl) ?_
    refine wp_seq ?_
    refine lwp_list ?_
    refine ls_d (d := some 5) (by kernel_rfl) (by kernel_rfl) HA (d_slit (zc := #[]) Tryd.underlying22 Tryd.sizeOf32 (by decide) (.inl ⟨(by kernel_rfl), (by kernel_rfl)⟩) (by kernel_rfl) (by kernel_rfl) H) (fun x5 h w H HA => ?_)
    refine ls_move (x := x0) (by kernel_rfl) (by kernel_rfl) ?_
    refine ls_d (d := some 7) (by kernel_rfl) (by kernel_rfl) HA (d_app (z := #[.int .i32 0, .int .i64 0, .int .i64 0, .int .i64 0]) Tryd.underlying22 Tryd.underlying22 (.inl ⟨_, rfl⟩) Tryd.typeInfo32 (by kernel_rfl) Tryd.sizeOf32 Tryd.zeroValue32 (by kernel_rfl) (by kernel_rfl) (by kernel_rfl) H) (fun x7 h_1 w_1 H HA_1 => ?_)
    refine ls_assign (x := x7) (by kernel_rfl) (by kernel_rfl) ?_
    refine ls_nil ?_
    refine then_normal ?_
    refine fr_eq (b := ⟨#[x0, undef, x7, x0, x4, x5, x0, x7], []⟩) (by kernel_rfl) ?_
    refine wp_ret ?_
    exact end1 (Tryd.results25) (by kernel_rfl) (by kernel_rfl) HA_1 H _ (.inr rfl)

end Go.Proofs.YtjlpgakoedigoaaDoor
