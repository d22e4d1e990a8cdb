/- The shallow reading of one function, and that the function does it. Written by a program. -/
import Derived.Test.YtjlpgakoedigoaaDoorFnC
set_option linter.unusedVariables false
namespace Go.Proofs.YtjlpgakoedigoaaDoor
open Go Go.HW

def strings_Builder_Write_S (x0 x1 : Value) (h : Heap) (R : Value → Heap → Prop) : Prop :=
  strings_Builder_copyCheck_c x0 h fun x7 h => 
  sNil x0 fun x10 =>
  sOff x10 1 fun x11 =>
  sLd h x11 fun x12 =>
  sApp h x12 x1 #[.int .u8 0] 5 1 fun x14 h_1 => 
  sNil x0 fun x15 =>
  sOff x15 1 fun x16 =>
  sSt h_1 x16 x14 fun h_2 => 
  sLen x1 fun x18 =>
  R (.tuple #[x18, .nilIface]) h_2
set_option maxRecDepth 100000 in
theorem strings_Builder_Write_runs {x0 x1 : Value} {h : Heap} {R : Value → Heap → Prop} (H : strings_Builder_Write_S x0 x1 h R) : strings_Builder_Write_c x0 x1 h R := by
  unfold strings_Builder_Write_S at H
  refine runs_of (b := ⟨#[x0, x1, undef, undef, undef, undef, undef, undef, undef, undef, undef, undef, undef, undef, undef, undef, undef, undef, undef], []⟩) Tryd.call20 Tryd.func20 rfl (by kernel_rfl) (fun w0 HA => ?_)
  refine wp_seq ?_
  refine lwp_list ?_
  refine ls_assign (x := (.int .i64 0)) (by kernel_rfl) (by kernel_rfl) ?_
  refine ls_assign (x := .nilIface) (by kernel_rfl) (by kernel_rfl) ?_
  refine ls_nil ?_
  refine then_normal ?_
  refine fr_eq (b := ⟨#[x0, x1, undef, undef, (.int .i64 0), .nilIface, undef, undef, undef, undef, undef, undef, undef, undef, undef, undef, undef, undef, undef], []⟩) (by kernel_rfl) ?_
  refine wp_seq ?_
  refine lwp_list ?_
  refine ls_move (x := x0) (by kernel_rfl) (by kernel_rfl) ?_
  refine ls_d (d := some 7) (by kernel_rfl) (by kernel_rfl) HA (d_call (by kernel_rfl) (by kernel_rfl) H) (fun x7 h w H HA => ?_)
  refine ls_nil ?_
  refine then_normal ?_
  refine fr_eq (b := ⟨#[x0, x1, undef, undef, (.int .i64 0), .nilIface, x0, x7, undef, undef, undef, undef, undef, undef, undef, undef, undef, undef, undef], []⟩) (by kernel_rfl) ?_
  refine wp_seq ?_
  refine lwp_list ?_
  refine ls_move (x := x0) (by kernel_rfl) (by kernel_rfl) ?_
  refine ls_move (x := x0) (by kernel_rfl) (by kernel_rfl) ?_
  refine ls_p (d := some 10) (by kernel_rfl) (by kernel_rfl) (p_nil (by kernel_rfl) H) (fun x10 H => ?_)
  refine ls_p (d := some 11) (by kernel_rfl) (by kernel_rfl) (p_off Tryd.underlying45 rfl (fun w => ⟨_, Tryd.sizeOf43 w⟩) rfl (by kernel_rfl) H) (fun x11 H => ?_)
  refine ls_y (d := some 12) (by kernel_rfl) (by kernel_rfl) HA (y_ld Tryd.isAgg43 (by kernel_rfl) H) (fun x12 H => ?_)
  refine ls_move (x := x1) (by kernel_rfl) (by kernel_rfl) ?_
  refine ls_fr (b := ⟨#[x0, x1, undef, undef, (.int .i64 0), .nilIface, x0, x7, x0, x0, x10, x11, x12, x1, undef, undef, undef, undef, undef], []⟩) (by kernel_rfl) ?_
  refine ls_d (d := some 14) (by kernel_rfl) (by kernel_rfl) HA (d_app (z := #[.int .u8 0]) Tryd.underlying43 Tryd.underlying43 (.inl ⟨_, rfl⟩) Tryd.typeInfo5 (by kernel_rfl) Tryd.sizeOf5 Tryd.zeroValue5 (by kernel_rfl) (by kernel_rfl) (by kernel_rfl) H) (fun x14 h_1 w_1 H HA_1 => ?_)
  refine ls_p (d := some 15) (by kernel_rfl) (by kernel_rfl) (p_nil (by kernel_rfl) H) (fun x15 H => ?_)
  refine ls_p (d := some 16) (by kernel_rfl) (by kernel_rfl) (p_off Tryd.underlying45 rfl (fun w => ⟨_, Tryd.sizeOf43 w⟩) rfl (by kernel_rfl) H) (fun x16 H => ?_)
  refine ls_d (d := none) (by kernel_rfl) (by kernel_rfl) HA_1 (d_st Tryd.sizeOf43 (by kernel_rfl) (by kernel_rfl) H) (fun _ h_2 w_2 H HA_2 => ?_)
  refine ls_nil ?_
  refine then_normal ?_
  refine fr_eq (b := ⟨#[x0, x1, undef, undef, (.int .i64 0), .nilIface, x0, x7, x0, x0, x10, x11, x12, x1, x14, x15, x16, undef, undef], []⟩) (by kernel_rfl) ?_
  refine wp_seq ?_
  refine lwp_list ?_
  refine ls_move (x := x1) (by kernel_rfl) (by kernel_rfl) ?_
  refine ls_p (d := some 18) (by kernel_rfl) (by kernel_rfl) (p_len Tryd.underlying43 (by kernel_rfl) H) (fun x18 H => ?_)
  refine ls_assign (x := x18) (by kernel_rfl) (by kernel_rfl) ?_
  refine ls_assign (x := .nilIface) (by kernel_rfl) (by kernel_rfl) ?_
  refine ls_nil ?_
  refine then_normal ?_
  refine fr_eq (b := ⟨#[x0, x1, undef, undef, x18, .nilIface, x0, x7, x0, x0, x10, x11, x12, x1, x14, x15, x16, x1, x18], []⟩) (by kernel_rfl) ?_
  refine wp_ret ?_
  exact end2 (Tryd.results20) (by kernel_rfl) (by kernel_rfl) (by kernel_rfl) HA_2 H _ (.inr rfl)

end Go.Proofs.YtjlpgakoedigoaaDoor
