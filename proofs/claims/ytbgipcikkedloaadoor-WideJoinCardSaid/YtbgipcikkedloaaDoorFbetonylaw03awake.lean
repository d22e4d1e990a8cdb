/- The shallow reading of one function, and that the function does it. Written by a program. -/
import Derived.Test.YtbgipcikkedloaaDoorFnC
set_option linter.unusedVariables false
namespace Go.Proofs.YtbgipcikkedloaaDoor
open Go Go.HW

def betonylaw03_awake_S (h : Heap) (R : Value → Heap → Prop) : Prop :=
  sSlit h #[.int .i32 0, .int .i32 0, .int .i32 0] [(0, 1, (.int .i32 97)), (1, 1, (.int .i32 19968)), (2, 1, (.int .i32 769))] 21 3 fun x1 h => 
  wide_Text_c x1 h fun x2 h_1 => 
  sEq x2 (.int .i64 3) fun x3 =>
  sAndH x3 h_1 (fun k_1 =>
  wide_Width_c (.int .i32 7) h_1 fun x5 h_5 => 
  sEq x5 (.int .i64 (-1)) fun x6 =>
  k_1 x6 h_5) fun x7 h_2 =>
  sAndH x7 h_2 (fun k =>
  wide_Width_c (.int .i32 769) h_2 fun x9 h_4 => 
  sEq x9 (.int .i64 0) fun x10 =>
  k x10 h_4) fun x11 h_3 =>
  R x11 h_3
set_option maxRecDepth 100000 in
theorem betonylaw03_awake_runs {h : Heap} {R : Value → Heap → Prop} (H : betonylaw03_awake_S  h R) : betonylaw03_awake_c  h R := by
  unfold betonylaw03_awake_S at H
  refine runs_of (b := ⟨#[undef, undef, undef, undef, undef, undef, undef, undef, undef, undef, undef, undef], []⟩) Tryd.call8 Tryd.func8 rfl (by kernel_rfl) (fun w0 HA => ?_)
  refine wp_seq ?_
  refine lwp_list ?_
  refine ls_assign (x := (.bool false)) (by kernel_rfl) (by kernel_rfl) ?_
  refine ls_nil ?_
  refine then_normal ?_
  refine fr_eq (b := ⟨#[(.bool false), undef, undef, undef, undef, undef, undef, undef, undef, undef, undef, undef], []⟩) (by kernel_rfl) ?_
  refine wp_seq ?_
  refine lwp_list ?_
  refine ls_d (d := some 1) (by kernel_rfl) (by kernel_rfl) HA (d_slit (zc := #[.int .i32 0]) Tryd.underlying26 Tryd.sizeOf21 (by decide) (.inr ⟨by decide, _, Tryd.zeroValue21, (by kernel_rfl)⟩) (by kernel_rfl) (by kernel_rfl) H) (fun x1 h w H HA => ?_)
  refine ls_d (d := some 2) (by kernel_rfl) (by kernel_rfl) HA (d_call (by kernel_rfl) (by kernel_rfl) H) (fun x2 h_1 w_1 H HA_1 => ?_)
  refine ls_p (d := some 3) (by kernel_rfl) (by kernel_rfl) (p_sEq (by kernel_rfl) (by kernel_rfl) H) (fun x3 H => ?_)
  refine ls_move (x := x3) (by kernel_rfl) (by kernel_rfl) ?_
  refine ls_andh [(), (), ()] (fun K a w => ∃ (D : Nat → Value) (x7 : Value) (h_2 : Heap), a = ⟨#[(.bool false), x1, x2, x3, x3, (D 0), (D 1), x7, undef, undef, undef, undef], []⟩ ∧ At w0 w h_2 ∧ K x7 h_2) H (fun hb_1 H => ?_) (fun hb_1 H => ?_) ?_
  · refine ls_d (d := some 5) (by kernel_rfl) (by rw [hb_1]; kernel_rfl) HA_1 (d_call (by kernel_rfl) (by kernel_rfl) H) (fun x5 h_5 w_5 H HA_5 => ?_)
    refine ls_p (d := some 6) (by kernel_rfl) (by rw [hb_1]; kernel_rfl) (p_sEq (by kernel_rfl) (by kernel_rfl) H) (fun x6 H => ?_)
    refine ls_pick_t (x := x6) (by kernel_rfl) (by rw [hb_1]; kernel_rfl) (by kernel_rfl) ?_
    refine ls_nil ?_
    refine then_normal ?_
    exact ⟨(fun i => ([x5, x6]).getD i undef), x6, h_5, by kernel_rfl, HA_5, H⟩
  · refine ls_skip (d := some 5) (by kernel_rfl) (by rw [hb_1]; kernel_rfl) ?_
    refine ls_skip (d := some 6) (by kernel_rfl) (by rw [hb_1]; kernel_rfl) ?_
    refine ls_pick_f (y := (.bool false)) (by kernel_rfl) (by rw [hb_1]; kernel_rfl) (by kernel_rfl) ?_
    refine ls_nil ?_
    refine then_normal ?_
    exact ⟨(fun i => ([undef, undef]).getD i undef), (.bool false), h_1, by kernel_rfl, HA_1, H⟩
  · rintro _ w_2 ⟨D, x7, h_2, rfl, HA_2, H⟩
    refine ls_move (x := x7) (by kernel_rfl) (by kernel_rfl) ?_
    refine ls_andh [(), (), ()] (fun K a w => ∃ (D_1 : Nat → Value) (x11 : Value) (h_3 : Heap), a = ⟨#[(.bool false), x1, x2, x3, x3, (D 0), (D 1), x7, x7, (D_1 0), (D_1 1), x11], []⟩ ∧ At w0 w h_3 ∧ K x11 h_3) H (fun hb H => ?_) (fun hb H => ?_) ?_
    · refine ls_d (d := some 9) (by kernel_rfl) (by rw [hb]; kernel_rfl) HA_2 (d_call (by kernel_rfl) (by kernel_rfl) H) (fun x9 h_4 w_4 H HA_4 => ?_)
      refine ls_p (d := some 10) (by kernel_rfl) (by rw [hb]; kernel_rfl) (p_sEq (by kernel_rfl) (by kernel_rfl) H) (fun x10 H => ?_)
      refine ls_pick_t (x := x10) (by kernel_rfl) (by rw [hb]; kernel_rfl) (by kernel_rfl) ?_
      refine ls_nil ?_
      refine then_normal ?_
      exact ⟨(fun i => ([x9, x10]).getD i undef), x10, h_4, by kernel_rfl, HA_4, H⟩
    · refine ls_skip (d := some 9) (by kernel_rfl) (by rw [hb]; kernel_rfl) ?_
      refine ls_skip (d := some 10) (by kernel_rfl) (by rw [hb]; kernel_rfl) ?_
      refine ls_pick_f (y := (.bool false)) (by kernel_rfl) (by rw [hb]; kernel_rfl) (by kernel_rfl) ?_
      refine ls_nil ?_
      refine then_normal ?_
      exact ⟨(fun i => ([undef, undef]).getD i undef), (.bool false), h_2, by kernel_rfl, HA_2, H⟩
    · rintro _ w_3 ⟨D_1, x11, h_3, rfl, HA_3, H⟩
      refine ls_assign (x := x11) (by kernel_rfl) (by kernel_rfl) ?_
      refine ls_nil ?_
      refine then_normal ?_
      refine fr_eq (b := ⟨#[x11, x1, x2, x3, x3, (D 0), (D 1), x7, x7, (D_1 0), (D_1 1), x11], []⟩) (by kernel_rfl) ?_
      refine wp_ret ?_
      exact end1 (Tryd.results8) (by kernel_rfl) (by kernel_rfl) HA_3 H _ (.inr rfl)

end Go.Proofs.YtbgipcikkedloaaDoor
