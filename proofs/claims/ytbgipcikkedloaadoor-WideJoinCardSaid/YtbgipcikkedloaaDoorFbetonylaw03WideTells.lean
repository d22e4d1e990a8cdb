/- The shallow reading of one function, and that the function does it. Written by a program. -/
import Derived.Test.YtbgipcikkedloaaDoorFnC
set_option linter.unusedVariables false
namespace Go.Proofs.YtbgipcikkedloaaDoor
open Go Go.HW

def betonylaw03_WideTells_S (x0 : Value) (h : Heap) (R : Value → Heap → Prop) : Prop :=
  wide_Width_c x0 h fun x4 h => 
  sConv .i64 x0 fun x6 =>
  betonyref03_Width_c x6 h fun x7 h_1 => 
  sEq x4 x7 fun x8 =>
  sAndH x8 h_1 (fun k =>
  betonylaw03_awake_c  h_1 fun x10 h_3 => 
  k x10 h_3) fun x11 h_2 =>
  R x11 h_2
set_option maxRecDepth 100000 in
theorem betonylaw03_WideTells_runs {x0 : Value} {h : Heap} {R : Value → Heap → Prop} (H : betonylaw03_WideTells_S x0 h R) : betonylaw03_WideTells_c x0 h R := by
  unfold betonylaw03_WideTells_S at H
  refine runs_of (b := ⟨#[x0, undef, undef, undef, undef, undef, undef, undef, undef, undef, undef, undef], []⟩) Tryd.call3 Tryd.func3 rfl (by kernel_rfl) (fun w0 HA => ?_)
  refine wp_seq ?_
  refine lwp_list ?_
  refine ls_assign (x := (.bool false)) (by kernel_rfl) (by kernel_rfl) ?_
  refine ls_nil ?_
  refine then_normal ?_
  refine fr_eq (b := ⟨#[x0, undef, (.bool false), undef, undef, undef, undef, undef, undef, undef, undef, undef], []⟩) (by kernel_rfl) ?_
  refine wp_seq ?_
  refine lwp_list ?_
  refine ls_move (x := x0) (by kernel_rfl) (by kernel_rfl) ?_
  refine ls_d (d := some 4) (by kernel_rfl) (by kernel_rfl) HA (d_call (by kernel_rfl) (by kernel_rfl) H) (fun x4 h w H HA => ?_)
  refine ls_move (x := x0) (by kernel_rfl) (by kernel_rfl) ?_
  refine ls_p (d := some 6) (by kernel_rfl) (by kernel_rfl) (p_conv Tryd.underlying21 Tryd.underlying3 (by kernel_rfl) H) (fun x6 H => ?_)
  refine ls_d (d := some 7) (by kernel_rfl) (by kernel_rfl) HA (d_call (by kernel_rfl) (by kernel_rfl) H) (fun x7 h_1 w_1 H HA_1 => ?_)
  refine ls_p (d := some 8) (by kernel_rfl) (by kernel_rfl) (p_sEq (by kernel_rfl) (by kernel_rfl) H) (fun x8 H => ?_)
  refine ls_move (x := x8) (by kernel_rfl) (by kernel_rfl) ?_
  refine ls_andh [(), ()] (fun K a w => ∃ (D : Nat → Value) (x11 : Value) (h_2 : Heap), a = ⟨#[x0, undef, (.bool false), x0, x4, x0, x6, x7, x8, x8, (D 0), x11], []⟩ ∧ At w0 w h_2 ∧ K x11 h_2) H (fun hb H => ?_) (fun hb H => ?_) ?_
  · refine ls_d (d := some 10) (by kernel_rfl) (by rw [hb]; kernel_rfl) HA_1 (d_call (by kernel_rfl) (by kernel_rfl) H) (fun x10 h_3 w_3 H HA_3 => ?_)
    refine ls_pick_t (x := x10) (by kernel_rfl) (by rw [hb]; kernel_rfl) (by kernel_rfl) ?_
    refine ls_nil ?_
    refine then_normal ?_
    exact ⟨(fun i => ([x10]).getD i undef), x10, h_3, by kernel_rfl, HA_3, H⟩
  · refine ls_skip (d := some 10) (by kernel_rfl) (by rw [hb]; kernel_rfl) ?_
    refine ls_pick_f (y := (.bool false)) (by kernel_rfl) (by rw [hb]; kernel_rfl) (by kernel_rfl) ?_
    refine ls_nil ?_
    refine then_normal ?_
    exact ⟨(fun i => ([undef]).getD i undef), (.bool false), h_1, by kernel_rfl, HA_1, H⟩
  · rintro _ w_2 ⟨D, x11, h_2, rfl, HA_2, H⟩
    refine ls_assign (x := x11) (by kernel_rfl) (by kernel_rfl) ?_
    refine ls_nil ?_
    refine then_normal ?_
    refine fr_eq (b := ⟨#[x0, undef, x11, x0, x4, x0, x6, x7, x8, x8, (D 0), x11], []⟩) (by kernel_rfl) ?_
    refine wp_ret ?_
    exact end1 (Tryd.results3) (by kernel_rfl) (by kernel_rfl) HA_2 H _ (.inr rfl)

end Go.Proofs.YtbgipcikkedloaaDoor
