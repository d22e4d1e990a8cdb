/- The shallow reading of one function, and that the function does it. Written by a program. -/
import Derived.Test.YtjlpgakoedigoaaDoorFnC
import Derived.Test.YtjlpgakoedigoaaDoorHwStr
set_option linter.unusedVariables false
namespace Go.Proofs.YtjlpgakoedigoaaDoor
open Go Go.HW

def strings_Builder_copyCheck_S (x0 : Value) (h : Heap) (R : Value → Heap → Prop) : Prop :=
  sNil x0 fun x3 =>
  sOff x3 0 fun x4 =>
  sLd h x4 fun x5 =>
  sEqlNil x5 fun x6 =>
  sIf x6 (sP2U h x0 fun x9 h => 
  sNoEsc h x9 fun x10 h_1 => 
  sU2P h_1 x10 45 2 fun x11 h_2 => 
  sNil x0 fun x12 =>
  sOff x12 0 fun x13 =>
  sSt h_2 x13 x11 fun h_3 => 
  R unit h_3) (sNil x0 fun x15 =>
  sOff x15 0 fun x16 =>
  sLd h x16 fun x17 =>
  sNePtr x17 x0 fun x19 =>
  sIf x19 (False) (R unit h))
set_option maxRecDepth 100000 in
theorem strings_Builder_copyCheck_runs {x0 : Value} {h : Heap} {R : Value → Heap → Prop} (H : strings_Builder_copyCheck_S x0 h R) : strings_Builder_copyCheck_c x0 h R := by
  unfold strings_Builder_copyCheck_S at H
  refine runs_of (b := ⟨#[x0, undef, undef, undef, undef, undef, undef, undef, undef, undef, undef, undef, undef, undef, undef, undef, undef, undef, undef, undef], []⟩) Tryd.call26 Tryd.func26 rfl (by kernel_rfl) (fun w0 HA => ?_)
  refine wp_seq ?_
  refine lwp_list ?_
  refine ls_move (x := x0) (by kernel_rfl) (by kernel_rfl) ?_
  refine ls_p (d := some 3) (by kernel_rfl) (by kernel_rfl) (p_nil (by kernel_rfl) H) (fun x3 H => ?_)
  refine ls_p (d := some 4) (by kernel_rfl) (by kernel_rfl) (p_off Tryd.underlying45 rfl (fun w => ⟨_, Tryd.sizeOf42 w⟩) rfl (by kernel_rfl) H) (fun x4 H => ?_)
  refine ls_y (d := some 5) (by kernel_rfl) (by kernel_rfl) HA (y_ld Tryd.isAgg42 (by kernel_rfl) H) (fun x5 H => ?_)
  refine ls_p (d := some 6) (by kernel_rfl) (by kernel_rfl) (p_eqlNil Tryd.underlying42 (by kernel_rfl) (by kernel_rfl) H) (fun x6 H => ?_)
  refine ls_nil ?_
  refine then_normal ?_
  refine fr_eq (b := ⟨#[x0, undef, x0, x3, x4, x5, x6, undef, undef, undef, undef, undef, undef, undef, undef, undef, undef, undef, undef, undef], []⟩) (by kernel_rfl) ?_
  refine wp_if rfl H (fun H => ?_) (fun H => ?_)
  · refine lwp_list ?_
    refine ls_move (x := x0) (by kernel_rfl) (by kernel_rfl) ?_
    refine ls_move (x := x0) (by kernel_rfl) (by kernel_rfl) ?_
    refine ls_d (d := some 9) (by kernel_rfl) (by kernel_rfl) HA (d_p2u Tryd.underlying42 Tryd.underlying65 (by kernel_rfl) (by kernel_rfl) H) (fun x9 h w H HA => ?_)
    refine ls_d (d := some 10) (by kernel_rfl) (by kernel_rfl) HA (d_nesc Tryd.func32 (by kernel_rfl) (by kernel_rfl) (by kernel_rfl) (by kernel_rfl) rfl (by kernel_rfl) H) (fun x10 h_1 w_1 H HA_1 => ?_)
    refine ls_d (d := some 11) (by kernel_rfl) (by kernel_rfl) HA_1 (d_u2p Tryd.underlying65 Tryd.underlying42 (by kernel_rfl) (by kernel_rfl) (by kernel_rfl) H) (fun x11 h_2 w_2 H HA_2 => ?_)
    refine ls_p (d := some 12) (by kernel_rfl) (by kernel_rfl) (p_nil (by kernel_rfl) H) (fun x12 H => ?_)
    refine ls_fr (b := ⟨#[x0, undef, x0, x3, x4, x5, x6, x0, x0, x9, x10, x11, x12, undef, undef, undef, undef, undef, undef, undef], []⟩) (by kernel_rfl) ?_
    refine ls_p (d := some 13) (by kernel_rfl) (by kernel_rfl) (p_off Tryd.underlying45 rfl (fun w => ⟨_, Tryd.sizeOf42 w⟩) rfl (by kernel_rfl) H) (fun x13 H => ?_)
    refine ls_d (d := none) (by kernel_rfl) (by kernel_rfl) HA_2 (d_st Tryd.sizeOf42 (by kernel_rfl) (by kernel_rfl) H) (fun _ h_3 w_3 H HA_3 => ?_)
    refine ls_nil ?_
    exact end0 (Tryd.results26) (by kernel_rfl) HA_3 H _ (.inl rfl)
  · refine wp_seq ?_
    refine lwp_list ?_
    refine ls_move (x := x0) (by kernel_rfl) (by kernel_rfl) ?_
    refine ls_p (d := some 15) (by kernel_rfl) (by kernel_rfl) (p_nil (by kernel_rfl) H) (fun x15 H => ?_)
    refine ls_p (d := some 16) (by kernel_rfl) (by kernel_rfl) (p_off Tryd.underlying45 rfl (fun w => ⟨_, Tryd.sizeOf42 w⟩) rfl (by kernel_rfl) H) (fun x16 H => ?_)
    refine ls_y (d := some 17) (by kernel_rfl) (by kernel_rfl) HA (y_ld Tryd.isAgg42 (by kernel_rfl) H) (fun x17 H => ?_)
    refine ls_move (x := x0) (by kernel_rfl) (by kernel_rfl) ?_
    refine ls_p (d := some 19) (by kernel_rfl) (by kernel_rfl) (p_nePtr Tryd.underlying42 (by kernel_rfl) (by kernel_rfl) (by kernel_rfl) H) (fun x19 H => ?_)
    refine ls_nil ?_
    refine then_normal ?_
    refine fr_eq (b := ⟨#[x0, undef, x0, x3, x4, x5, x6, undef, undef, undef, undef, undef, undef, undef, x0, x15, x16, x17, x0, x19], []⟩) (by kernel_rfl) ?_
    refine wp_if rfl H (fun H => ?_) (fun H => ?_)
    · exact H.elim
    · refine wp_skip ?_
      exact end0 (Tryd.results26) (by kernel_rfl) HA H _ (.inl rfl)

end Go.Proofs.YtjlpgakoedigoaaDoor
