/- The shallow reading of one function, and that the function does it. Written by a program. -/
import Derived.Test.YtbgipcikkedloaaFnC
set_option linter.unusedVariables false
namespace Go.Proofs.Ytbgipcikkedloaa
open Go Go.HW

def betonylaw08_ScanBytes_S (x0 x1 : Value) (h : Heap) (R : Value → Heap → Prop) : Prop :=
  sBox h x0 52 fun x2 h => 
  ∃ C : Heap → Prop, C h ∧ (sLdNC C x2 2 fun x5 =>
  scan_Bytes_c x5 x1 h fun x7 h_1 => C h_1 ∧ (
  sLdNC C x2 2 fun x8 =>
  betonyref08_Bytes_c x8 x1 h_1 fun x10 h_2 => 
  betonyref01_Same_c x7 x10 h_2 fun x11 h_3 => 
  sAndH x11 h_3 (fun k =>
  betonylaw08_awake_c  h_3 fun x13 h_5 => 
  k x13 h_5) fun x14 h_4 =>
  R x14 h_4))
set_option maxRecDepth 100000 in
theorem betonylaw08_ScanBytes_runs {x0 x1 : Value} {h : Heap} {R : Value → Heap → Prop} (H : betonylaw08_ScanBytes_S x0 x1 h R) : betonylaw08_ScanBytes_c x0 x1 h R := by
  unfold betonylaw08_ScanBytes_S at H
  refine runs_of (b := ⟨#[x0, x1, undef, undef, undef, undef, undef, undef, undef, undef, undef, undef, undef, undef, undef], []⟩) Try.call5 Try.func5 rfl (by kernel_rfl) (fun w0 HA => ?_)
  refine wp_seq ?_
  refine lwp_list ?_
  refine ls_d (d := some 2) (by kernel_rfl) (by kernel_rfl) HA (d_box (by kernel_rfl) H) (fun x2 h w H HA => ?_)
  refine ls_assign (x := (.bool false)) (by kernel_rfl) (by kernel_rfl) ?_
  refine ls_nil ?_
  refine then_normal ?_
  refine fr_eq (b := ⟨#[x0, x1, x2, undef, (.bool false), undef, undef, undef, undef, undef, undef, undef, undef, undef, undef], []⟩) (by kernel_rfl) ?_
  refine wp_seq ?_
  obtain ⟨C, HC, H⟩ := H
  refine lwp_mx (Nat.testBit 356) (Nat.testBit 4) (Nat.testBit 1682) [0, 0, 3, 0, 0, 31, 63, 127, 255, 511, 1023] C [0, 1, 2, 3, 4, 5, 6, 7, 8, 9, 10] (by kernel_rfl) (by kernel_rfl) (by kernel_rfl) HA HC ?_
  intro w_1 HA_1
  refine lm_f (d := some 5) (by kernel_rfl) rfl (by kernel_rfl) (by kernel_rfl) (by kernel_rfl) (c_ldn Try.isAgg52 Try.sizeOf52 (by kernel_rfl) H) (fun x5 H => ?_)
  refine lm_al (x := x1) (d := some 6) (by kernel_rfl) rfl (by kernel_rfl) (by kernel_rfl) (al_move (by kernel_rfl)) ?_
  refine lm_dc (d := some 7) (by kernel_rfl) rfl (by kernel_rfl) (by kernel_rfl) HA_1 (d_call (by kernel_rfl) (by kernel_rfl) H) (fun x7 h_1 w_2 H HA_2 => ?_)
  refine lm_f (d := some 8) (by kernel_rfl) rfl (by kernel_rfl) (by kernel_rfl) (by kernel_rfl) (c_ldn Try.isAgg52 Try.sizeOf52 (by kernel_rfl) H) (fun x8 H => ?_)
  refine lm_al (x := x1) (d := some 9) (by kernel_rfl) rfl (by kernel_rfl) (by kernel_rfl) (al_move (by kernel_rfl)) ?_
  refine lm_d (d := some 10) (by kernel_rfl) rfl (by kernel_rfl) (by kernel_rfl) (by kernel_rfl) HA_2 (d_call (by kernel_rfl) (by kernel_rfl) H) (fun x10 h_2 w_3 H HA_3 => ?_)
  refine lm_fr (b := ⟨#[x0, x1, x2, undef, (.bool false), x5, x1, x7, x8, x1, x10, undef, undef, undef, undef], []⟩) (by kernel_rfl) ?_
  refine lm_d (d := some 11) (by kernel_rfl) rfl (by kernel_rfl) (by kernel_rfl) (by kernel_rfl) HA_3 (d_call (by kernel_rfl) (by kernel_rfl) H) (fun x11 h_3 w_4 H HA_4 => ?_)
  refine lm_al (x := x11) (d := some 12) (by kernel_rfl) rfl (by kernel_rfl) (by kernel_rfl) (al_move (by kernel_rfl)) ?_
  refine lm_andh [(), ()] (fun K a w => ∃ (D : Nat → Value) (x14 : Value) (h_4 : Heap), a = ⟨#[x0, x1, x2, undef, (.bool false), x5, x1, x7, x8, x1, x10, x11, x11, (D 0), x14], []⟩ ∧ At w0 w h_4 ∧ K x14 h_4) H (fun hb H => ?_) (fun hb H => ?_) ?_
  · refine lm_d (d := some 13) (by kernel_rfl) rfl (by kernel_rfl) (by kernel_rfl) (by rw [hb]; kernel_rfl) HA_4 (d_call (by kernel_rfl) (by kernel_rfl) H) (fun x13 h_5 w_6 H HA_6 => ?_)
    refine lm_al (x := x13) (d := some 14) (by kernel_rfl) rfl (by kernel_rfl) (by kernel_rfl) (al_pick_t (by rw [hb]; kernel_rfl) (by kernel_rfl)) ?_
    refine lm_nil ?_
    exact ⟨(fun i => ([x13]).getD i undef), x13, h_5, by kernel_rfl, HA_6, H⟩
  · refine lm_skip (d := some 13) (by kernel_rfl) rfl (by rw [hb]; kernel_rfl) ?_
    refine lm_al (x := (.bool false)) (d := some 14) (by kernel_rfl) rfl (by kernel_rfl) (by kernel_rfl) (al_pick_f (by rw [hb]; kernel_rfl) (by kernel_rfl)) ?_
    refine lm_nil ?_
    exact ⟨(fun i => ([undef]).getD i undef), (.bool false), h_3, by kernel_rfl, HA_4, H⟩
  · rintro _ w_5 ⟨D, x14, h_4, rfl, HA_5, H⟩
    refine lm_al (x := x14) (d := some 4) (by kernel_rfl) rfl (by kernel_rfl) (by kernel_rfl) (al_assign (by kernel_rfl)) ?_
    refine lm_nil ?_
    refine then_normal ?_
    refine fr_eq (b := ⟨#[x0, x1, x2, undef, x14, x5, x1, x7, x8, x1, x10, x11, x11, (D 0), x14], []⟩) (by kernel_rfl) ?_
    refine wp_ret ?_
    exact end1 (Try.results5) (by kernel_rfl) (by kernel_rfl) HA_5 H _ (.inr rfl)

end Go.Proofs.Ytbgipcikkedloaa
