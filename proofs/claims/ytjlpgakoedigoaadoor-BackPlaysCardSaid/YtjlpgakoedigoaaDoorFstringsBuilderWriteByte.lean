/- The shallow reading of one function, and that the function does it. Written by a program. -/
import Derived.Test.YtjlpgakoedigoaaDoorFnC
set_option linter.unusedVariables false
namespace Go.Proofs.YtjlpgakoedigoaaDoor
open Go Go.HW

def strings_Builder_WriteByte_S (x0 x1 : Value) (h : Heap) (R : Value → Heap → Prop) : Prop :=
  strings_Builder_copyCheck_c x0 h fun x6 h => 
  sNil x0 fun x9 =>
  sOff x9 1 fun x10 =>
  sLd h x10 fun x11 =>
  sSlit h #[.int .u8 0] [(0, 1, x1)] 5 1 fun x13 h_1 => 
  sApp h_1 x11 x13 #[.int .u8 0] 5 1 fun x14 h_2 => 
  sNil x0 fun x15 =>
  sOff x15 1 fun x16 =>
  sSt h_2 x16 x14 fun h_3 => 
  R .nilIface h_3
set_option maxRecDepth 100000 in
theorem strings_Builder_WriteByte_runs {x0 x1 : Value} {h : Heap} {R : Value → Heap → Prop} (H : strings_Builder_WriteByte_S x0 x1 h R) : strings_Builder_WriteByte_c x0 x1 h R := by
  unfold strings_Builder_WriteByte_S at H
  refine runs_of (b := ⟨#[x0, x1, undef, undef, undef, undef, undef, undef, undef, undef, undef, undef, undef, undef, undef, undef, undef], []⟩) Tryd.call19 Tryd.func19 rfl (by kernel_rfl) (fun w0 HA => ?_)
  refine wp_seq ?_
  refine lwp_list ?_
  refine ls_assign (x := .nilIface) (by kernel_rfl) (by kernel_rfl) ?_
  refine ls_nil ?_
  refine then_normal ?_
  refine fr_eq (b := ⟨#[x0, x1, undef, undef, .nilIface, undef, undef, undef, undef, undef, undef, undef, undef, undef, undef, undef, undef], []⟩) (by kernel_rfl) ?_
  refine wp_seq ?_
  refine lwp_list ?_
  refine ls_move (x := x0) (by kernel_rfl) (by kernel_rfl) ?_
  refine ls_d (d := some 6) (by kernel_rfl) (by kernel_rfl) HA (d_call (by kernel_rfl) (by kernel_rfl) H) (fun x6 h w H HA => ?_)
  refine ls_nil ?_
  refine then_normal ?_
  refine fr_eq (b := ⟨#[x0, x1, undef, undef, .nilIface, x0, x6, undef, undef, undef, undef, undef, undef, undef, undef, undef, undef], []⟩) (by kernel_rfl) ?_
  refine wp_seq ?_
  refine lwp_list ?_
  refine ls_move (x := x0) (by kernel_rfl) (by kernel_rfl) ?_
  refine ls_move (x := x0) (by kernel_rfl) (by kernel_rfl) ?_
  refine ls_p (d := some 9) (by kernel_rfl) (by kernel_rfl) (p_nil (by kernel_rfl) H) (fun x9 H => ?_)
  refine ls_p (d := some 10) (by kernel_rfl) (by kernel_rfl) (p_off Tryd.underlying45 rfl (fun w => ⟨_, Tryd.sizeOf43 w⟩) rfl (by kernel_rfl) H) (fun x10 H => ?_)
  refine ls_y (d := some 11) (by kernel_rfl) (by kernel_rfl) HA (y_ld Tryd.isAgg43 (by kernel_rfl) H) (fun x11 H => ?_)
  refine ls_move (x := x1) (by kernel_rfl) (by kernel_rfl) ?_
  refine ls_fr (b := ⟨#[x0, x1, undef, undef, .nilIface, x0, x6, x0, x0, x9, x10, x11, x1, undef, undef, undef, undef], []⟩) (by kernel_rfl) ?_
  refine ls_d (d := some 13) (by kernel_rfl) (by kernel_rfl) HA (d_slit (zc := #[.int .u8 0]) Tryd.underlying43 Tryd.sizeOf5 (by decide) (.inr ⟨by decide, _, Tryd.zeroValue5, (by kernel_rfl)⟩) (by kernel_rfl) (by kernel_rfl) H) (fun x13 h_1 w_1 H HA_1 => ?_)
  refine ls_d (d := some 14) (by kernel_rfl) (by kernel_rfl) HA_1 (d_app (z := #[.int .u8 0]) Tryd.underlying43 Tryd.underlying43 (.inl ⟨_, rfl⟩) Tryd.typeInfo5 (by kernel_rfl) Tryd.sizeOf5 Tryd.zeroValue5 (by kernel_rfl) (by kernel_rfl) (by kernel_rfl) H) (fun x14 h_2 w_2 H HA_2 => ?_)
  refine ls_p (d := some 15) (by kernel_rfl) (by kernel_rfl) (p_nil (by kernel_rfl) H) (fun x15 H => ?_)
  refine ls_p (d := some 16) (by kernel_rfl) (by kernel_rfl) (p_off Tryd.underlying45 rfl (fun w => ⟨_, Tryd.sizeOf43 w⟩) rfl (by kernel_rfl) H) (fun x16 H => ?_)
  refine ls_d (d := none) (by kernel_rfl) (by kernel_rfl) HA_2 (d_st Tryd.sizeOf43 (by kernel_rfl) (by kernel_rfl) H) (fun _ h_3 w_3 H HA_3 => ?_)
  refine ls_nil ?_
  refine then_normal ?_
  refine fr_eq (b := ⟨#[x0, x1, undef, undef, .nilIface, x0, x6, x0, x0, x9, x10, x11, x1, x13, x14, x15, x16], []⟩) (by kernel_rfl) ?_
  refine wp_seq ?_
  refine lwp_list ?_
  refine ls_assign (x := .nilIface) (by kernel_rfl) (by kernel_rfl) ?_
  refine ls_nil ?_
  refine then_normal ?_
  refine fr_eq (b := ⟨#[x0, x1, undef, undef, .nilIface, x0, x6, x0, x0, x9, x10, x11, x1, x13, x14, x15, x16], []⟩) (by kernel_rfl) ?_
  refine wp_ret ?_
  exact end1 (Tryd.results19) (by kernel_rfl) (by kernel_rfl) HA_3 H _ (.inr rfl)

end Go.Proofs.YtjlpgakoedigoaaDoor
