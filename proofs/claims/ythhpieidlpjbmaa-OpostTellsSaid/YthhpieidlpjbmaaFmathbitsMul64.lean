/- The shallow reading of one function, and that the function does it. Written by a program. -/
import Derived.Test.YthhpieidlpjbmaaFnC
set_option linter.unusedVariables false
namespace Go.Proofs.Ythhpieidlpjbmaa
open Go Go.HW

def math_bits_Mul64_S (x0 x1 : Value) (h : Heap) (R : Value → Heap → Prop) : Prop :=
  sBits .and .u64 x0 (.int .u64 4294967295) fun x15 =>
  sShr .u64 x0 (.int .u64 32) fun x17 =>
  sBits .and .u64 x1 (.int .u64 4294967295) fun x19 =>
  sShr .u64 x1 (.int .u64 32) fun x21 =>
  sMul .u64 x15 x19 fun x24 =>
  sMul .u64 x17 x19 fun x27 =>
  sShr .u64 x24 (.int .u64 32) fun x29 =>
  sAdd .u64 x27 x29 fun x30 =>
  sBits .and .u64 x30 (.int .u64 4294967295) fun x32 =>
  sShr .u64 x30 (.int .u64 32) fun x34 =>
  sMul .u64 x15 x21 fun x38 =>
  sAdd .u64 x32 x38 fun x39 =>
  sMul .u64 x17 x21 fun x42 =>
  sAdd .u64 x42 x34 fun x44 =>
  sShr .u64 x39 (.int .u64 32) fun x46 =>
  sAdd .u64 x44 x46 fun x47 =>
  sMul .u64 x0 x1 fun x50 =>
  R (.tuple #[x47, x50]) h
set_option maxRecDepth 100000 in
theorem math_bits_Mul64_runs {x0 x1 : Value} {h : Heap} {R : Value → Heap → Prop} (H : math_bits_Mul64_S x0 x1 h R) : math_bits_Mul64_c x0 x1 h R := by
  unfold math_bits_Mul64_S at H
  refine runs_of (b := ⟨#[x0, x1, undef, undef, undef, undef, undef, undef, undef, undef, undef, undef, undef, undef, undef, undef, undef, undef, undef, undef, undef, undef, undef, undef, undef, undef, undef, undef, undef, undef, undef, undef, undef, undef, undef, undef, undef, undef, undef, undef, undef, undef, undef, undef, undef, undef, undef, undef, undef, undef, undef], []⟩) Try.call62 Try.func62 rfl (by kernel_rfl) (fun w0 HA => ?_)
  refine wp_seq ?_
  refine lwp_list ?_
  refine ls_assign (x := (.int .u64 0)) (by kernel_rfl) (by kernel_rfl) ?_
  refine ls_assign (x := (.int .u64 0)) (by kernel_rfl) (by kernel_rfl) ?_
  refine ls_nil ?_
  refine then_normal ?_
  refine fr_eq (b := ⟨#[x0, x1, undef, undef, (.int .u64 0), (.int .u64 0), undef, undef, undef, undef, undef, undef, undef, undef, undef, undef, undef, undef, undef, undef, undef, undef, undef, undef, undef, undef, undef, undef, undef, undef, undef, undef, undef, undef, undef, undef, undef, undef, undef, undef, undef, undef, undef, undef, undef, undef, undef, undef, undef, undef, undef], []⟩) (by kernel_rfl) ?_
  refine wp_seq ?_
  refine lwp_list ?_
  refine ls_move (x := x0) (by kernel_rfl) (by kernel_rfl) ?_
  refine ls_p (d := some 15) (by kernel_rfl) (by kernel_rfl) (p_bits (by decide) (by kernel_rfl) (by kernel_rfl) H) (fun x15 H => ?_)
  refine ls_assign (x := x15) (by kernel_rfl) (by kernel_rfl) ?_
  refine ls_nil ?_
  refine then_normal ?_
  refine fr_eq (b := ⟨#[x0, x1, undef, undef, (.int .u64 0), (.int .u64 0), x15, undef, undef, undef, undef, undef, undef, undef, x0, x15, undef, undef, undef, undef, undef, undef, undef, undef, undef, undef, undef, undef, undef, undef, undef, undef, undef, undef, undef, undef, undef, undef, undef, undef, undef, undef, undef, undef, undef, undef, undef, undef, undef, undef, undef], []⟩) (by kernel_rfl) ?_
  refine wp_seq ?_
  refine lwp_list ?_
  refine ls_move (x := x0) (by kernel_rfl) (by kernel_rfl) ?_
  refine ls_p (d := some 17) (by kernel_rfl) (by kernel_rfl) (p_shr (by kernel_rfl) (by kernel_rfl) H) (fun x17 H => ?_)
  refine ls_assign (x := x17) (by kernel_rfl) (by kernel_rfl) ?_
  refine ls_nil ?_
  refine then_normal ?_
  refine fr_eq (b := ⟨#[x0, x1, undef, undef, (.int .u64 0), (.int .u64 0), x15, x17, undef, undef, undef, undef, undef, undef, x0, x15, x0, x17, undef, undef, undef, undef, undef, undef, undef, undef, undef, undef, undef, undef, undef, undef, undef, undef, undef, undef, undef, undef, undef, undef, undef, undef, undef, undef, undef, undef, undef, undef, undef, undef, undef], []⟩) (by kernel_rfl) ?_
  refine wp_seq ?_
  refine lwp_list ?_
  refine ls_move (x := x1) (by kernel_rfl) (by kernel_rfl) ?_
  refine ls_p (d := some 19) (by kernel_rfl) (by kernel_rfl) (p_bits (by decide) (by kernel_rfl) (by kernel_rfl) H) (fun x19 H => ?_)
  refine ls_assign (x := x19) (by kernel_rfl) (by kernel_rfl) ?_
  refine ls_nil ?_
  refine then_normal ?_
  refine fr_eq (b := ⟨#[x0, x1, undef, undef, (.int .u64 0), (.int .u64 0), x15, x17, x19, undef, undef, undef, undef, undef, x0, x15, x0, x17, x1, x19, undef, undef, undef, undef, undef, undef, undef, undef, undef, undef, undef, undef, undef, undef, undef, undef, undef, undef, undef, undef, undef, undef, undef, undef, undef, undef, undef, undef, undef, undef, undef], []⟩) (by kernel_rfl) ?_
  refine wp_seq ?_
  refine lwp_list ?_
  refine ls_move (x := x1) (by kernel_rfl) (by kernel_rfl) ?_
  refine ls_p (d := some 21) (by kernel_rfl) (by kernel_rfl) (p_shr (by kernel_rfl) (by kernel_rfl) H) (fun x21 H => ?_)
  refine ls_assign (x := x21) (by kernel_rfl) (by kernel_rfl) ?_
  refine ls_nil ?_
  refine then_normal ?_
  refine fr_eq (b := ⟨#[x0, x1, undef, undef, (.int .u64 0), (.int .u64 0), x15, x17, x19, x21, undef, undef, undef, undef, x0, x15, x0, x17, x1, x19, x1, x21, undef, undef, undef, undef, undef, undef, undef, undef, undef, undef, undef, undef, undef, undef, undef, undef, undef, undef, undef, undef, undef, undef, undef, undef, undef, undef, undef, undef, undef], []⟩) (by kernel_rfl) ?_
  refine wp_seq ?_
  refine lwp_list ?_
  refine ls_move (x := x15) (by kernel_rfl) (by kernel_rfl) ?_
  refine ls_move (x := x19) (by kernel_rfl) (by kernel_rfl) ?_
  refine ls_p (d := some 24) (by kernel_rfl) (by kernel_rfl) (p_mul (by kernel_rfl) (by kernel_rfl) H) (fun x24 H => ?_)
  refine ls_assign (x := x24) (by kernel_rfl) (by kernel_rfl) ?_
  refine ls_nil ?_
  refine then_normal ?_
  refine fr_eq (b := ⟨#[x0, x1, undef, undef, (.int .u64 0), (.int .u64 0), x15, x17, x19, x21, x24, undef, undef, undef, x0, x15, x0, x17, x1, x19, x1, x21, x15, x19, x24, undef, undef, undef, undef, undef, undef, undef, undef, undef, undef, undef, undef, undef, undef, undef, undef, undef, undef, undef, undef, undef, undef, undef, undef, undef, undef], []⟩) (by kernel_rfl) ?_
  refine wp_seq ?_
  refine lwp_list ?_
  refine ls_move (x := x17) (by kernel_rfl) (by kernel_rfl) ?_
  refine ls_move (x := x19) (by kernel_rfl) (by kernel_rfl) ?_
  refine ls_p (d := some 27) (by kernel_rfl) (by kernel_rfl) (p_mul (by kernel_rfl) (by kernel_rfl) H) (fun x27 H => ?_)
  refine ls_move (x := x24) (by kernel_rfl) (by kernel_rfl) ?_
  refine ls_p (d := some 29) (by kernel_rfl) (by kernel_rfl) (p_shr (by kernel_rfl) (by kernel_rfl) H) (fun x29 H => ?_)
  refine ls_p (d := some 30) (by kernel_rfl) (by kernel_rfl) (p_add (by kernel_rfl) (by kernel_rfl) H) (fun x30 H => ?_)
  refine ls_fr (b := ⟨#[x0, x1, undef, undef, (.int .u64 0), (.int .u64 0), x15, x17, x19, x21, x24, undef, undef, undef, x0, x15, x0, x17, x1, x19, x1, x21, x15, x19, x24, x17, x19, x27, x24, x29, x30, undef, undef, undef, undef, undef, undef, undef, undef, undef, undef, undef, undef, undef, undef, undef, undef, undef, undef, undef, undef], []⟩) (by kernel_rfl) ?_
  refine ls_assign (x := x30) (by kernel_rfl) (by kernel_rfl) ?_
  refine ls_nil ?_
  refine then_normal ?_
  refine fr_eq (b := ⟨#[x0, x1, undef, undef, (.int .u64 0), (.int .u64 0), x15, x17, x19, x21, x24, x30, undef, undef, x0, x15, x0, x17, x1, x19, x1, x21, x15, x19, x24, x17, x19, x27, x24, x29, x30, undef, undef, undef, undef, undef, undef, undef, undef, undef, undef, undef, undef, undef, undef, undef, undef, undef, undef, undef, undef], []⟩) (by kernel_rfl) ?_
  refine wp_seq ?_
  refine lwp_list ?_
  refine ls_move (x := x30) (by kernel_rfl) (by kernel_rfl) ?_
  refine ls_p (d := some 32) (by kernel_rfl) (by kernel_rfl) (p_bits (by decide) (by kernel_rfl) (by kernel_rfl) H) (fun x32 H => ?_)
  refine ls_assign (x := x32) (by kernel_rfl) (by kernel_rfl) ?_
  refine ls_nil ?_
  refine then_normal ?_
  refine fr_eq (b := ⟨#[x0, x1, undef, undef, (.int .u64 0), (.int .u64 0), x15, x17, x19, x21, x24, x30, x32, undef, x0, x15, x0, x17, x1, x19, x1, x21, x15, x19, x24, x17, x19, x27, x24, x29, x30, x30, x32, undef, undef, undef, undef, undef, undef, undef, undef, undef, undef, undef, undef, undef, undef, undef, undef, undef, undef], []⟩) (by kernel_rfl) ?_
  refine wp_seq ?_
  refine lwp_list ?_
  refine ls_move (x := x30) (by kernel_rfl) (by kernel_rfl) ?_
  refine ls_p (d := some 34) (by kernel_rfl) (by kernel_rfl) (p_shr (by kernel_rfl) (by kernel_rfl) H) (fun x34 H => ?_)
  refine ls_assign (x := x34) (by kernel_rfl) (by kernel_rfl) ?_
  refine ls_nil ?_
  refine then_normal ?_
  refine fr_eq (b := ⟨#[x0, x1, undef, undef, (.int .u64 0), (.int .u64 0), x15, x17, x19, x21, x24, x30, x32, x34, x0, x15, x0, x17, x1, x19, x1, x21, x15, x19, x24, x17, x19, x27, x24, x29, x30, x30, x32, x30, x34, undef, undef, undef, undef, undef, undef, undef, undef, undef, undef, undef, undef, undef, undef, undef, undef], []⟩) (by kernel_rfl) ?_
  refine wp_seq ?_
  refine lwp_list ?_
  refine ls_move (x := x32) (by kernel_rfl) (by kernel_rfl) ?_
  refine ls_move (x := x15) (by kernel_rfl) (by kernel_rfl) ?_
  refine ls_move (x := x21) (by kernel_rfl) (by kernel_rfl) ?_
  refine ls_p (d := some 38) (by kernel_rfl) (by kernel_rfl) (p_mul (by kernel_rfl) (by kernel_rfl) H) (fun x38 H => ?_)
  refine ls_p (d := some 39) (by kernel_rfl) (by kernel_rfl) (p_add (by kernel_rfl) (by kernel_rfl) H) (fun x39 H => ?_)
  refine ls_assign (x := x39) (by kernel_rfl) (by kernel_rfl) ?_
  refine ls_nil ?_
  refine then_normal ?_
  refine fr_eq (b := ⟨#[x0, x1, undef, undef, (.int .u64 0), (.int .u64 0), x15, x17, x19, x21, x24, x30, x39, x34, x0, x15, x0, x17, x1, x19, x1, x21, x15, x19, x24, x17, x19, x27, x24, x29, x30, x30, x32, x30, x34, x32, x15, x21, x38, x39, undef, undef, undef, undef, undef, undef, undef, undef, undef, undef, undef], []⟩) (by kernel_rfl) ?_
  refine wp_seq ?_
  refine lwp_list ?_
  refine ls_move (x := x17) (by kernel_rfl) (by kernel_rfl) ?_
  refine ls_move (x := x21) (by kernel_rfl) (by kernel_rfl) ?_
  refine ls_p (d := some 42) (by kernel_rfl) (by kernel_rfl) (p_mul (by kernel_rfl) (by kernel_rfl) H) (fun x42 H => ?_)
  refine ls_move (x := x34) (by kernel_rfl) (by kernel_rfl) ?_
  refine ls_p (d := some 44) (by kernel_rfl) (by kernel_rfl) (p_add (by kernel_rfl) (by kernel_rfl) H) (fun x44 H => ?_)
  refine ls_move (x := x39) (by kernel_rfl) (by kernel_rfl) ?_
  refine ls_fr (b := ⟨#[x0, x1, undef, undef, (.int .u64 0), (.int .u64 0), x15, x17, x19, x21, x24, x30, x39, x34, x0, x15, x0, x17, x1, x19, x1, x21, x15, x19, x24, x17, x19, x27, x24, x29, x30, x30, x32, x30, x34, x32, x15, x21, x38, x39, x17, x21, x42, x34, x44, x39, undef, undef, undef, undef, undef], []⟩) (by kernel_rfl) ?_
  refine ls_p (d := some 46) (by kernel_rfl) (by kernel_rfl) (p_shr (by kernel_rfl) (by kernel_rfl) H) (fun x46 H => ?_)
  refine ls_p (d := some 47) (by kernel_rfl) (by kernel_rfl) (p_add (by kernel_rfl) (by kernel_rfl) H) (fun x47 H => ?_)
  refine ls_assign (x := x47) (by kernel_rfl) (by kernel_rfl) ?_
  refine ls_nil ?_
  refine then_normal ?_
  refine fr_eq (b := ⟨#[x0, x1, undef, undef, x47, (.int .u64 0), x15, x17, x19, x21, x24, x30, x39, x34, x0, x15, x0, x17, x1, x19, x1, x21, x15, x19, x24, x17, x19, x27, x24, x29, x30, x30, x32, x30, x34, x32, x15, x21, x38, x39, x17, x21, x42, x34, x44, x39, x46, x47, undef, undef, undef], []⟩) (by kernel_rfl) ?_
  refine wp_seq ?_
  refine lwp_list ?_
  refine ls_move (x := x0) (by kernel_rfl) (by kernel_rfl) ?_
  refine ls_move (x := x1) (by kernel_rfl) (by kernel_rfl) ?_
  refine ls_p (d := some 50) (by kernel_rfl) (by kernel_rfl) (p_mul (by kernel_rfl) (by kernel_rfl) H) (fun x50 H => ?_)
  refine ls_assign (x := x50) (by kernel_rfl) (by kernel_rfl) ?_
  refine ls_nil ?_
  refine then_normal ?_
  refine fr_eq (b := ⟨#[x0, x1, undef, undef, x47, x50, x15, x17, x19, x21, x24, x30, x39, x34, x0, x15, x0, x17, x1, x19, x1, x21, x15, x19, x24, x17, x19, x27, x24, x29, x30, x30, x32, x30, x34, x32, x15, x21, x38, x39, x17, x21, x42, x34, x44, x39, x46, x47, x0, x1, x50], []⟩) (by kernel_rfl) ?_
  refine wp_ret ?_
  exact end2 (Try.results62) (by kernel_rfl) (by kernel_rfl) (by kernel_rfl) HA H _ (.inr rfl)

end Go.Proofs.Ythhpieidlpjbmaa
