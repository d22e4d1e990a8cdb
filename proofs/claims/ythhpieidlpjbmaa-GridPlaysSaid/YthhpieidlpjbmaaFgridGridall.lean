/- The shallow reading of one function, and that the function does it. Written by a program. -/
import Derived.Test.YthhpieidlpjbmaaFnC
set_option linter.unusedVariables false
namespace Go.Proofs.Ythhpieidlpjbmaa
open Go Go.HW

def grid_Grid_all_S (x0 : Value) (h : Heap) (R : Value → Heap → Prop) : Prop :=
  sNew h #[.int .i64 0, .int .i64 0, .int .i64 0, .int .i64 0] 23 fun x2 h => 
  sNil x0 fun x4 =>
  sOff x4 0 fun x5 =>
  sLd h x5 fun x6 =>
  sNil x0 fun x8 =>
  sOff x8 1 fun x9 =>
  sLd h x9 fun x10 =>
  sBuild #[.int .i64 0, .int .i64 0, .int .i64 0, .int .i64 0] [(2, 1, x6), (3, 1, x10)] fun x11 =>
  sStN h x2 x11 4 fun h_1 => 
  sLdN h_1 x2 4 fun r2 =>
  R r2 h_1
set_option maxRecDepth 100000 in
theorem grid_Grid_all_runs {x0 : Value} {h : Heap} {R : Value → Heap → Prop} (H : grid_Grid_all_S x0 h R) : grid_Grid_all_c x0 h R := by
  unfold grid_Grid_all_S at H
  refine runs_of (b := ⟨#[x0, undef, undef, undef, undef, undef, undef, undef, undef, undef, undef, undef], []⟩) Try.call36 Try.func36 rfl (by kernel_rfl) (fun w0 HA => ?_)
  refine wp_seq ?_
  refine lwp_list ?_
  refine ls_d (d := some 2) (by kernel_rfl) (by kernel_rfl) HA (d_alloc Try.zeroValue23 H) (fun x2 h w H HA => ?_)
  refine ls_nil ?_
  refine then_normal ?_
  refine fr_eq (b := ⟨#[x0, undef, x2, undef, undef, undef, undef, undef, undef, undef, undef, undef], []⟩) (by kernel_rfl) ?_
  refine wp_seq ?_
  refine lwp_mx (Nat.testBit 512) (Nat.testBit 0) (Nat.testBit 375) [0, 1, 3, 7, 0, 16, 48, 112, 255, 511] (Nat.testBit 0) (fun h' => h' = h) [0, 1, 2, 3, 4, 5, 6, 7, 8, 9] (by kernel_rfl) (by kernel_rfl) (by kernel_rfl) (by kernel_rfl) HA rfl ?_
  intro w_1 HA_1
  refine lm_al (x := x0) (d := some 3) (by kernel_rfl) rfl (by kernel_rfl) (by kernel_rfl) (al_move (by kernel_rfl)) ?_
  refine lm_p (d := some 4) (by kernel_rfl) rfl (by kernel_rfl) (by kernel_rfl) (p_nil (by kernel_rfl) H) (fun x4 H => ?_)
  refine lm_p (d := some 5) (by kernel_rfl) rfl (by kernel_rfl) (by kernel_rfl) (p_off Try.underlying68 rfl (fun w => ⟨_, Try.sizeOf3 w⟩) rfl (by kernel_rfl) H) (fun x5 H => ?_)
  refine lm_f (d := some 6) (by kernel_rfl) rfl (by kernel_rfl) (by kernel_rfl) (by kernel_rfl) (by kernel_rfl) (of_eq (y_ld Try.isAgg3 (by kernel_rfl) H)) (fun x6 H => ?_)
  refine lm_al (x := x0) (d := some 7) (by kernel_rfl) rfl (by kernel_rfl) (by kernel_rfl) (al_move (by kernel_rfl)) ?_
  refine lm_p (d := some 8) (by kernel_rfl) rfl (by kernel_rfl) (by kernel_rfl) (p_nil (by kernel_rfl) H) (fun x8 H => ?_)
  refine lm_p (d := some 9) (by kernel_rfl) rfl (by kernel_rfl) (by kernel_rfl) (p_off Try.underlying68 rfl (fun w => ⟨_, Try.sizeOf3 w⟩) rfl (by kernel_rfl) H) (fun x9 H => ?_)
  refine lm_f (d := some 10) (by kernel_rfl) rfl (by kernel_rfl) (by kernel_rfl) (by kernel_rfl) (by kernel_rfl) (of_eq (y_ld Try.isAgg3 (by kernel_rfl) H)) (fun x10 H => ?_)
  refine lm_p (d := some 11) (by kernel_rfl) rfl (by kernel_rfl) (by kernel_rfl) (p_lit (pl := [(0, 1), (1, 1), (2, 1), (3, 1)]) Try.zeroValue23 Try.underlying23 ⟨(by kernel_rfl), Try.sizeOf3, (by kernel_rfl), Try.sizeOf3, (by kernel_rfl), Try.sizeOf3, (by kernel_rfl), Try.sizeOf3, trivial⟩ (by kernel_rfl) (by kernel_rfl) H) (fun x11 H => ?_)
  refine lm_d (d := none) (by kernel_rfl) rfl (by kernel_rfl) (by kernel_rfl) (by kernel_rfl) HA_1 (d_stn Try.sizeOf23 (by kernel_rfl) (by kernel_rfl) H) (fun _ h_1 w_2 H HA_2 => ?_)
  refine lm_nil ?_
  refine then_normal ?_
  refine fr_eq (b := ⟨#[x0, undef, x2, x0, x4, x5, x6, x0, x8, x9, x10, x11], []⟩) (by kernel_rfl) ?_
  refine wp_ret ?_
  obtain ⟨r2, hr2, H⟩ := ld_n Try.isAgg23 Try.sizeOf23 H
  exact endR (vs := [r2]) (Try.results36) (by kernel_rfl) ⟨⟨_, (by kernel_rfl), hr2⟩, trivial⟩ HA_2 H _ (.inr rfl)

end Go.Proofs.Ythhpieidlpjbmaa
