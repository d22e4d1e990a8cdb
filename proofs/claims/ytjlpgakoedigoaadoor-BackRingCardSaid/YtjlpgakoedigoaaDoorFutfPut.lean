/- The shallow reading of one function, and that the function does it. Written by a program. -/
import Derived.Test.YtjlpgakoedigoaaDoorFnC
import Derived.Test.YtjlpgakoedigoaaDoorHwStr
set_option linter.unusedVariables false
namespace Go.Proofs.YtjlpgakoedigoaaDoor
open Go Go.HW

def utf_Put_S (x0 : Value) (h : Heap) (R : Value → Heap → Prop) : Prop :=
  sI2S x0 fun x4 =>
  sS2B h x4 5 fun x5 h => 
  R x5 h
set_option maxRecDepth 100000 in
theorem utf_Put_runs {x0 : Value} {h : Heap} {R : Value → Heap → Prop} (H : utf_Put_S x0 h R) : utf_Put_c x0 h R := by
  unfold utf_Put_S at H
  refine runs_of (b := ⟨#[x0, undef, undef, undef, undef, undef], []⟩) Tryd.call21 Tryd.func21 rfl (by kernel_rfl) (fun w0 HA => ?_)
  refine wp_seq ?_
  refine lwp_list ?_
  refine ls_assign (x := (.slice none 0 0)) (by kernel_rfl) (by kernel_rfl) ?_
  refine ls_nil ?_
  refine then_normal ?_
  refine fr_eq (b := ⟨#[x0, undef, (.slice none 0 0), undef, undef, undef], []⟩) (by kernel_rfl) ?_
  refine wp_seq ?_
  refine lwp_list ?_
  refine ls_move (x := x0) (by kernel_rfl) (by kernel_rfl) ?_
  refine ls_p (d := some 4) (by kernel_rfl) (by kernel_rfl) (p_i2s Tryd.underlying21 Tryd.underlying9 (by kernel_rfl) H) (fun x4 H => ?_)
  refine ls_d (d := some 5) (by kernel_rfl) (by kernel_rfl) HA (d_s2b Tryd.underlying9 Tryd.underlying43 Tryd.underlying5 (by kernel_rfl) H) (fun x5 h w H HA => ?_)
  refine ls_assign (x := x5) (by kernel_rfl) (by kernel_rfl) ?_
  refine ls_nil ?_
  refine then_normal ?_
  refine fr_eq (b := ⟨#[x0, undef, x5, x0, x4, x5], []⟩) (by kernel_rfl) ?_
  refine wp_ret ?_
  exact end1 (Tryd.results21) (by kernel_rfl) (by kernel_rfl) HA H _ (.inr rfl)

end Go.Proofs.YtjlpgakoedigoaaDoor
