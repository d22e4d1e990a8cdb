/- The shallow reading of one function, and that the function does it. Written by a program. -/
import Derived.Test.YtkagmlpnidijaaaFnC
set_option linter.unusedVariables false
namespace Go.Proofs.Ytkagmlpnidijaaa
open Go Go.HW

def betonyref05_set_S (x0 x1 : Value) (h : Heap) (R : Value → Heap → Prop) : Prop :=
  sBits .or .i64 x0 x1 fun x7 =>
  R x7 h
set_option maxRecDepth 100000 in
theorem betonyref05_set_runs {x0 x1 : Value} {h : Heap} {R : Value → Heap → Prop} (H : betonyref05_set_S x0 x1 h R) : betonyref05_set_c x0 x1 h R := by
  unfold betonyref05_set_S at H
  refine runs_of (b := ⟨#[x0, x1, undef, undef, undef, undef, undef, undef], []⟩) Try.call73 Try.func73 rfl (by kernel_rfl) (fun w0 HA => ?_)
  refine wp_seq ?_
  refine lwp_list ?_
  refine ls_assign (x := (.int .i64 0)) (by kernel_rfl) (by kernel_rfl) ?_
  refine ls_nil ?_
  refine then_normal ?_
  refine fr_eq (b := ⟨#[x0, x1, undef, undef, (.int .i64 0), undef, undef, undef], []⟩) (by kernel_rfl) ?_
  refine wp_seq ?_
  refine lwp_list ?_
  refine ls_move (x := x0) (by kernel_rfl) (by kernel_rfl) ?_
  refine ls_move (x := x1) (by kernel_rfl) (by kernel_rfl) ?_
  refine ls_p (d := some 7) (by kernel_rfl) (by kernel_rfl) (p_bits (by decide) (by kernel_rfl) (by kernel_rfl) H) (fun x7 H => ?_)
  refine ls_assign (x := x7) (by kernel_rfl) (by kernel_rfl) ?_
  refine ls_nil ?_
  refine then_normal ?_
  refine fr_eq (b := ⟨#[x0, x1, undef, undef, x7, x0, x1, x7], []⟩) (by kernel_rfl) ?_
  refine wp_ret ?_
  exact end1 (Try.results73) (by kernel_rfl) (by kernel_rfl) HA H _ (.inr rfl)

end Go.Proofs.Ytkagmlpnidijaaa
