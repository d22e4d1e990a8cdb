/- The shallow reading of one function, and that the function does it. Written by a program. -/
import Derived.Test.YthhpieidlpjbmaaFnC
set_option linter.unusedVariables false
namespace Go.Proofs.Ythhpieidlpjbmaa
open Go Go.HW

def math_bits_Mul_S (x0 x1 : Value) (h : Heap) (R : Value → Heap → Prop) : Prop :=
  math_bits_Mul64_c x0 x1 h fun x25 h => 
  sTup x25 0 fun x26 =>
  sTup x25 1 fun x27 =>
  R (.tuple #[x26, x27]) h
set_option maxRecDepth 100000 in
theorem math_bits_Mul_runs {x0 x1 : Value} {h : Heap} {R : Value → Heap → Prop} (H : math_bits_Mul_S x0 x1 h R) : math_bits_Mul_c x0 x1 h R := by
  unfold math_bits_Mul_S at H
  refine runs_of (b := ⟨#[x0, x1, undef, undef, undef, undef, undef, undef, undef, undef, undef, undef, undef, undef, undef, undef, undef, undef, undef, undef, undef, undef, undef, undef, undef, undef, undef, undef, undef, undef], []⟩) Try.call59 Try.func59 rfl (by kernel_rfl) (fun w0 HA => ?_)
  refine wp_seq ?_
  refine lwp_list ?_
  refine ls_assign (x := (.int .u64 0)) (by kernel_rfl) (by kernel_rfl) ?_
  refine ls_assign (x := (.int .u64 0)) (by kernel_rfl) (by kernel_rfl) ?_
  refine ls_nil ?_
  refine then_normal ?_
  refine fr_eq (b := ⟨#[x0, x1, undef, undef, (.int .u64 0), (.int .u64 0), undef, undef, undef, undef, undef, undef, undef, undef, undef, undef, undef, undef, undef, undef, undef, undef, undef, undef, undef, undef, undef, undef, undef, undef], []⟩) (by kernel_rfl) ?_
  refine wp_seq ?_
  refine wp_cond_false rfl ?_
  refine wp_skip ?_
  refine then_normal ?_
  refine fr_eq (b := ⟨#[x0, x1, undef, undef, (.int .u64 0), (.int .u64 0), undef, undef, undef, undef, undef, undef, undef, undef, undef, undef, undef, undef, undef, undef, undef, undef, undef, undef, undef, undef, undef, undef, undef, undef], []⟩) (by kernel_rfl) ?_
  refine wp_seq ?_
  refine lwp_list ?_
  refine ls_move (x := x0) (by kernel_rfl) (by kernel_rfl) ?_
  refine ls_move (x := x1) (by kernel_rfl) (by kernel_rfl) ?_
  refine ls_d (d := some 25) (by kernel_rfl) (by kernel_rfl) HA (d_call (by kernel_rfl) (by kernel_rfl) H) (fun x25 h w H HA => ?_)
  refine ls_move (x := x25) (by kernel_rfl) (by kernel_rfl) ?_
  refine ls_p (d := some 26) (by kernel_rfl) (by kernel_rfl) (p_tup (by kernel_rfl) H) (fun x26 H => ?_)
  refine ls_p (d := some 27) (by kernel_rfl) (by kernel_rfl) (p_tup (by kernel_rfl) H) (fun x27 H => ?_)
  refine ls_fr (b := ⟨#[x0, x1, undef, undef, (.int .u64 0), (.int .u64 0), undef, undef, undef, undef, undef, undef, undef, undef, undef, undef, undef, undef, undef, undef, undef, undef, x25, x0, x1, x25, x26, x27, undef, undef], []⟩) (by kernel_rfl) ?_
  refine ls_assign (x := x26) (by kernel_rfl) (by kernel_rfl) ?_
  refine ls_assign (x := x27) (by kernel_rfl) (by kernel_rfl) ?_
  refine ls_nil ?_
  refine then_normal ?_
  refine fr_eq (b := ⟨#[x0, x1, undef, undef, (.int .u64 0), (.int .u64 0), undef, undef, x26, x27, undef, undef, undef, undef, undef, undef, undef, undef, undef, undef, undef, undef, x25, x0, x1, x25, x26, x27, undef, undef], []⟩) (by kernel_rfl) ?_
  refine wp_seq ?_
  refine lwp_list ?_
  refine ls_move (x := x26) (by kernel_rfl) (by kernel_rfl) ?_
  refine ls_move (x := x27) (by kernel_rfl) (by kernel_rfl) ?_
  refine ls_assign (x := x26) (by kernel_rfl) (by kernel_rfl) ?_
  refine ls_assign (x := x27) (by kernel_rfl) (by kernel_rfl) ?_
  refine ls_nil ?_
  refine then_normal ?_
  refine fr_eq (b := ⟨#[x0, x1, undef, undef, x26, x27, undef, undef, x26, x27, undef, undef, undef, undef, undef, undef, undef, undef, undef, undef, undef, undef, x25, x0, x1, x25, x26, x27, x26, x27], []⟩) (by kernel_rfl) ?_
  refine wp_ret ?_
  exact end2 (Try.results59) (by kernel_rfl) (by kernel_rfl) (by kernel_rfl) HA H _ (.inr rfl)

end Go.Proofs.Ythhpieidlpjbmaa
