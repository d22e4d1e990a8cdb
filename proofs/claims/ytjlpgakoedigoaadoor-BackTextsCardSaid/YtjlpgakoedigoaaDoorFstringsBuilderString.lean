/- The shallow reading of one function, and that the function does it. Written by a program. -/
import Derived.Test.YtjlpgakoedigoaaDoorFnC
import Derived.Test.YtjlpgakoedigoaaDoorHwStr
set_option linter.unusedVariables false
namespace Go.Proofs.YtjlpgakoedigoaaDoor
open Go Go.HW

def strings_Builder_String_S (x0 : Value) (h : Heap) (R : Value → Heap → Prop) : Prop :=
  sNil x0 fun x4 =>
  sOff x4 1 fun x5 =>
  sLd h x5 fun x6 =>
  sUsd x6 fun x7 =>
  sNil x0 fun x9 =>
  sOff x9 1 fun x10 =>
  sLd h x10 fun x11 =>
  sLen x11 fun x12 =>
  sUstr h x7 x12 5 fun x13 h => 
  R x13 h
set_option maxRecDepth 100000 in
theorem strings_Builder_String_runs {x0 : Value} {h : Heap} {R : Value → Heap → Prop} (H : strings_Builder_String_S x0 h R) : strings_Builder_String_c x0 h R := by
  unfold strings_Builder_String_S at H
  refine runs_of (b := ⟨#[x0, undef, undef, undef, undef, undef, undef, undef, undef, undef, undef, undef, undef, undef], []⟩) Tryd.call23 Tryd.func23 rfl (by kernel_rfl) (fun w0 HA => ?_)
  refine wp_seq ?_
  refine lwp_list ?_
  refine ls_assign (x := (.string ⟨#[]⟩)) (by kernel_rfl) (by kernel_rfl) ?_
  refine ls_nil ?_
  refine then_normal ?_
  refine fr_eq (b := ⟨#[x0, undef, (.string ⟨#[]⟩), undef, undef, undef, undef, undef, undef, undef, undef, undef, undef, undef], []⟩) (by kernel_rfl) ?_
  refine wp_seq ?_
  refine lwp_mx (Nat.testBit 1024) (Nat.testBit 0) (Nat.testBit 2807) [0, 1, 3, 7, 15, 0, 32, 96, 224, 480, 1023, 2047] (Nat.testBit 0) (fun h' => h' = h) [0, 1, 2, 3, 4, 5, 6, 7, 8, 9, 10, 11] (by kernel_rfl) (by kernel_rfl) (by kernel_rfl) (by kernel_rfl) HA rfl ?_
  intro w HA
  refine lm_al (x := x0) (d := some 3) (by kernel_rfl) rfl (by kernel_rfl) (by kernel_rfl) (al_move (by kernel_rfl)) ?_
  refine lm_p (d := some 4) (by kernel_rfl) rfl (by kernel_rfl) (by kernel_rfl) (p_nil (by kernel_rfl) H) (fun x4 H => ?_)
  refine lm_p (d := some 5) (by kernel_rfl) rfl (by kernel_rfl) (by kernel_rfl) (p_off Tryd.underlying45 rfl (fun w => ⟨_, Tryd.sizeOf43 w⟩) rfl (by kernel_rfl) H) (fun x5 H => ?_)
  refine lm_f (d := some 6) (by kernel_rfl) rfl (by kernel_rfl) (by kernel_rfl) (by kernel_rfl) (by kernel_rfl) (of_eq (y_ld Tryd.isAgg43 (by kernel_rfl) H)) (fun x6 H => ?_)
  refine lm_p (d := some 7) (by kernel_rfl) rfl (by kernel_rfl) (by kernel_rfl) (p_usd (by kernel_rfl) H) (fun x7 H => ?_)
  refine lm_al (x := x0) (d := some 8) (by kernel_rfl) rfl (by kernel_rfl) (by kernel_rfl) (al_move (by kernel_rfl)) ?_
  refine lm_fr (b := ⟨#[x0, undef, (.string ⟨#[]⟩), x0, x4, x5, x6, x7, x0, undef, undef, undef, undef, undef], []⟩) (by kernel_rfl) ?_
  refine lm_p (d := some 9) (by kernel_rfl) rfl (by kernel_rfl) (by kernel_rfl) (p_nil (by kernel_rfl) H) (fun x9 H => ?_)
  refine lm_p (d := some 10) (by kernel_rfl) rfl (by kernel_rfl) (by kernel_rfl) (p_off Tryd.underlying45 rfl (fun w => ⟨_, Tryd.sizeOf43 w⟩) rfl (by kernel_rfl) H) (fun x10 H => ?_)
  refine lm_f (d := some 11) (by kernel_rfl) rfl (by kernel_rfl) (by kernel_rfl) (by kernel_rfl) (by kernel_rfl) (of_eq (y_ld Tryd.isAgg43 (by kernel_rfl) H)) (fun x11 H => ?_)
  refine lm_p (d := some 12) (by kernel_rfl) rfl (by kernel_rfl) (by kernel_rfl) (p_len Tryd.underlying43 (by kernel_rfl) H) (fun x12 H => ?_)
  refine lm_d (d := some 13) (by kernel_rfl) rfl (by kernel_rfl) (by kernel_rfl) (by kernel_rfl) HA (d_ustr Tryd.underlying64 (by kernel_rfl) (by kernel_rfl) (by kernel_rfl) H) (fun x13 h w_1 H HA_1 => ?_)
  refine lm_al (x := x13) (d := some 2) (by kernel_rfl) rfl (by kernel_rfl) (by kernel_rfl) (al_assign (by kernel_rfl)) ?_
  refine lm_nil ?_
  refine then_normal ?_
  refine fr_eq (b := ⟨#[x0, undef, x13, x0, x4, x5, x6, x7, x0, x9, x10, x11, x12, x13], []⟩) (by kernel_rfl) ?_
  refine wp_ret ?_
  exact end1 (Tryd.results23) (by kernel_rfl) (by kernel_rfl) HA_1 H _ (.inr rfl)

end Go.Proofs.YtjlpgakoedigoaaDoor
