/- The shallow reading of one function, and that the function does it. Written by a program. -/
import Derived.Test.YtjlpgakoedigoaaDoorFnC
set_option linter.unusedVariables false
namespace Go.Proofs.YtjlpgakoedigoaaDoor
open Go Go.HW

def back_Back_Clear_S (x0 : Value) (h : Heap) (R : Value → Heap → Prop) : Prop :=
  sNil x0 fun x3 =>
  sOff x3 4 fun x4 =>
  sLd h x4 fun x5 =>
  sNil x0 fun x7 =>
  sOff x7 3 fun x8 =>
  sLd h x8 fun x9 =>
  sAdd .i64 x5 x9 fun x10 =>
  sNil x0 fun x11 =>
  sOff x11 4 fun x12 =>
  sSt h x12 x10 fun h => 
  sNil x0 fun x16 =>
  sOff x16 0 fun x17 =>
  sSt h x17 (.slice none 0 0) fun h_1 => 
  sNil x0 fun x18 =>
  sOff x18 2 fun x19 =>
  sSt h_1 x19 (.int .i64 0) fun h_2 => 
  sNil x0 fun x20 =>
  sOff x20 3 fun x21 =>
  sSt h_2 x21 (.int .i64 0) fun h_3 => 
  R unit h_3
set_option maxRecDepth 100000 in
theorem back_Back_Clear_runs {x0 : Value} {h : Heap} {R : Value → Heap → Prop} (H : back_Back_Clear_S x0 h R) : back_Back_Clear_c x0 h R := by
  unfold back_Back_Clear_S at H
  refine runs_of (b := ⟨#[x0, undef, undef, undef, undef, undef, undef, undef, undef, undef, undef, undef, undef, undef, undef, undef, undef, undef, undef, undef, undef, undef], []⟩) Tryd.call17 Tryd.func17 rfl (by kernel_rfl) (fun w0 HA => ?_)
  refine wp_seq ?_
  refine lwp_mx (Nat.testBit 2048) (Nat.testBit 0) (Nat.testBit 1911) [0, 1, 3, 7, 0, 16, 48, 112, 255, 511, 1023, 2047] (Nat.testBit 0) (fun h' => h' = h) [0, 1, 2, 3, 4, 5, 6, 7, 8, 9, 10, 11] (by kernel_rfl) (by kernel_rfl) (by kernel_rfl) (by kernel_rfl) HA rfl ?_
  intro w HA
  refine lm_al (x := x0) (d := some 2) (by kernel_rfl) rfl (by kernel_rfl) (by kernel_rfl) (al_move (by kernel_rfl)) ?_
  refine lm_p (d := some 3) (by kernel_rfl) rfl (by kernel_rfl) (by kernel_rfl) (p_nil (by kernel_rfl) H) (fun x3 H => ?_)
  refine lm_p (d := some 4) (by kernel_rfl) rfl (by kernel_rfl) (by kernel_rfl) (p_off Tryd.underlying56 rfl (fun w => ⟨_, Tryd.sizeOf3 w⟩) rfl (by kernel_rfl) H) (fun x4 H => ?_)
  refine lm_f (d := some 5) (by kernel_rfl) rfl (by kernel_rfl) (by kernel_rfl) (by kernel_rfl) (by kernel_rfl) (of_eq (y_ld Tryd.isAgg3 (by kernel_rfl) H)) (fun x5 H => ?_)
  refine lm_al (x := x0) (d := some 6) (by kernel_rfl) rfl (by kernel_rfl) (by kernel_rfl) (al_move (by kernel_rfl)) ?_
  refine lm_p (d := some 7) (by kernel_rfl) rfl (by kernel_rfl) (by kernel_rfl) (p_nil (by kernel_rfl) H) (fun x7 H => ?_)
  refine lm_fr (b := ⟨#[x0, undef, x0, x3, x4, x5, x0, x7, undef, undef, undef, undef, undef, undef, undef, undef, undef, undef, undef, undef, undef, undef], []⟩) (by kernel_rfl) ?_
  refine lm_p (d := some 8) (by kernel_rfl) rfl (by kernel_rfl) (by kernel_rfl) (p_off Tryd.underlying56 rfl (fun w => ⟨_, Tryd.sizeOf3 w⟩) rfl (by kernel_rfl) H) (fun x8 H => ?_)
  refine lm_f (d := some 9) (by kernel_rfl) rfl (by kernel_rfl) (by kernel_rfl) (by kernel_rfl) (by kernel_rfl) (of_eq (y_ld Tryd.isAgg3 (by kernel_rfl) H)) (fun x9 H => ?_)
  refine lm_p (d := some 10) (by kernel_rfl) rfl (by kernel_rfl) (by kernel_rfl) (p_add (by kernel_rfl) (by kernel_rfl) H) (fun x10 H => ?_)
  refine lm_p (d := some 11) (by kernel_rfl) rfl (by kernel_rfl) (by kernel_rfl) (p_nil (by kernel_rfl) H) (fun x11 H => ?_)
  refine lm_p (d := some 12) (by kernel_rfl) rfl (by kernel_rfl) (by kernel_rfl) (p_off Tryd.underlying56 rfl (fun w => ⟨_, Tryd.sizeOf3 w⟩) rfl (by kernel_rfl) H) (fun x12 H => ?_)
  refine lm_d (d := none) (by kernel_rfl) rfl (by kernel_rfl) (by kernel_rfl) (by kernel_rfl) HA (d_st Tryd.sizeOf3 (by kernel_rfl) (by kernel_rfl) H) (fun _ h w_1 H HA_1 => ?_)
  refine lm_nil ?_
  refine then_normal ?_
  refine fr_eq (b := ⟨#[x0, undef, x0, x3, x4, x5, x0, x7, x8, x9, x10, x11, x12, undef, undef, undef, undef, undef, undef, undef, undef, undef], []⟩) (by kernel_rfl) ?_
  refine lwp_list ?_
  refine ls_move (x := x0) (by kernel_rfl) (by kernel_rfl) ?_
  refine ls_move (x := x0) (by kernel_rfl) (by kernel_rfl) ?_
  refine ls_move (x := x0) (by kernel_rfl) (by kernel_rfl) ?_
  refine ls_p (d := some 16) (by kernel_rfl) (by kernel_rfl) (p_nil (by kernel_rfl) H) (fun x16 H => ?_)
  refine ls_p (d := some 17) (by kernel_rfl) (by kernel_rfl) (p_off Tryd.underlying56 rfl (fun w => ⟨_, Tryd.sizeOf39 w⟩) rfl (by kernel_rfl) H) (fun x17 H => ?_)
  refine ls_d (d := none) (by kernel_rfl) (by kernel_rfl) HA_1 (d_st Tryd.sizeOf39 (by kernel_rfl) (by kernel_rfl) H) (fun _ h_1 w_2 H HA_2 => ?_)
  refine ls_fr (b := ⟨#[x0, undef, x0, x3, x4, x5, x0, x7, x8, x9, x10, x11, x12, x0, x0, x0, x16, x17, undef, undef, undef, undef], []⟩) (by kernel_rfl) ?_
  refine ls_p (d := some 18) (by kernel_rfl) (by kernel_rfl) (p_nil (by kernel_rfl) H) (fun x18 H => ?_)
  refine ls_p (d := some 19) (by kernel_rfl) (by kernel_rfl) (p_off Tryd.underlying56 rfl (fun w => ⟨_, Tryd.sizeOf3 w⟩) rfl (by kernel_rfl) H) (fun x19 H => ?_)
  refine ls_d (d := none) (by kernel_rfl) (by kernel_rfl) HA_2 (d_st Tryd.sizeOf3 (by kernel_rfl) (by kernel_rfl) H) (fun _ h_2 w_3 H HA_3 => ?_)
  refine ls_p (d := some 20) (by kernel_rfl) (by kernel_rfl) (p_nil (by kernel_rfl) H) (fun x20 H => ?_)
  refine ls_p (d := some 21) (by kernel_rfl) (by kernel_rfl) (p_off Tryd.underlying56 rfl (fun w => ⟨_, Tryd.sizeOf3 w⟩) rfl (by kernel_rfl) H) (fun x21 H => ?_)
  refine ls_d (d := none) (by kernel_rfl) (by kernel_rfl) HA_3 (d_st Tryd.sizeOf3 (by kernel_rfl) (by kernel_rfl) H) (fun _ h_3 w_4 H HA_4 => ?_)
  refine ls_nil ?_
  exact end0 (Tryd.results17) (by kernel_rfl) HA_4 H _ (.inl rfl)

end Go.Proofs.YtjlpgakoedigoaaDoor
