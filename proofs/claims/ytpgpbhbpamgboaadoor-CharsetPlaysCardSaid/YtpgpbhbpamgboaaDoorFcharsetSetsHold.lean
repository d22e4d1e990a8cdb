/- The shallow reading of one function, and that the function does it. Written by a program. -/
import Derived.Test.YtpgpbhbpamgboaaDoorFnC
set_option linter.unusedVariables false
namespace Go.Proofs.YtpgpbhbpamgboaaDoor
open Go Go.HW

def charset_Sets_Hold_S (x0 x1 : Value) (h : Heap) (R : Value → Heap → Prop) : Prop :=
  sLt x1 (.int .i64 0) fun x6 =>
  sOr x6 (fun k =>
  sGt x1 (.int .i64 1) fun x9 =>
  k x9) fun x10 =>
  sIf x10 (R (.bool false) h) (sNil x0 fun x13 =>
  sOff x13 2 fun x14 =>
  sSt h x14 x1 fun h => 
  R (.bool true) h)
set_option maxRecDepth 100000 in
theorem charset_Sets_Hold_runs {x0 x1 : Value} {h : Heap} {R : Value → Heap → Prop} (H : charset_Sets_Hold_S x0 x1 h R) : charset_Sets_Hold_c x0 x1 h R := by
  unfold charset_Sets_Hold_S at H
  refine runs_of (b := ⟨#[x0, x1, undef, undef, undef, undef, undef, undef, undef, undef, undef, undef, undef, undef, undef], []⟩) Tryd.call9 Tryd.func9 rfl (by kernel_rfl) (fun w0 HA => ?_)
  refine wp_seq ?_
  refine lwp_list ?_
  refine ls_assign (x := (.bool false)) (by kernel_rfl) (by kernel_rfl) ?_
  refine ls_nil ?_
  refine then_normal ?_
  refine fr_eq (b := ⟨#[x0, x1, undef, undef, (.bool false), undef, undef, undef, undef, undef, undef, undef, undef, undef, undef], []⟩) (by kernel_rfl) ?_
  refine wp_seq ?_
  refine wp_seq ?_
  refine lwp_list ?_
  refine ls_move (x := x1) (by kernel_rfl) (by kernel_rfl) ?_
  refine ls_p (d := some 6) (by kernel_rfl) (by kernel_rfl) (p_sLt (by kernel_rfl) (by kernel_rfl) H) (fun x6 H => ?_)
  refine ls_move (x := x6) (by kernel_rfl) (by kernel_rfl) ?_
  refine ls_or [(), (), ()] (fun K a w => ∃ (D : Nat → Value) (x10 : Value), a = ⟨#[x0, x1, undef, undef, (.bool false), x1, x6, x6, (D 0), (D 1), x10, undef, undef, undef, undef], []⟩ ∧ At w0 w h ∧ K x10) H (fun hb H => ?_) (fun hb H => ?_) ?_
  · refine ls_move (x := x1) (by rw [hb]; kernel_rfl) (by kernel_rfl) ?_
    refine ls_p (d := some 9) (by kernel_rfl) (by rw [hb]; kernel_rfl) (p_sGt (by kernel_rfl) (by kernel_rfl) H) (fun x9 H => ?_)
    refine ls_pick_f (y := x9) (by kernel_rfl) (by rw [hb]; kernel_rfl) (by kernel_rfl) ?_
    refine ls_nil ?_
    refine then_normal ?_
    exact ⟨(fun i => ([x1, x9]).getD i undef), x9, by kernel_rfl, HA, H⟩
  · refine ls_skip (d := some 8) (by kernel_rfl) (by rw [hb]; kernel_rfl) ?_
    refine ls_skip (d := some 9) (by kernel_rfl) (by rw [hb]; kernel_rfl) ?_
    refine ls_pick_t (x := (.bool true)) (by kernel_rfl) (by rw [hb]; kernel_rfl) (by kernel_rfl) ?_
    refine ls_nil ?_
    refine then_normal ?_
    exact ⟨(fun i => ([undef, undef]).getD i undef), (.bool true), by kernel_rfl, HA, H⟩
  · rintro _ w ⟨D, x10, rfl, HA, H⟩
    refine ls_nil ?_
    refine then_normal ?_
    refine fr_eq (b := ⟨#[x0, x1, undef, undef, (.bool false), x1, x6, x6, (D 0), (D 1), x10, undef, undef, undef, undef], []⟩) (by kernel_rfl) ?_
    refine wp_if rfl H (fun H => ?_) (fun H => ?_)
    · refine wp_seq ?_
      refine lwp_list ?_
      refine ls_assign (x := (.bool false)) (by kernel_rfl) (by kernel_rfl) ?_
      refine ls_nil ?_
      refine then_normal ?_
      refine fr_eq (b := ⟨#[x0, x1, undef, undef, (.bool false), x1, x6, x6, (D 0), (D 1), x10, undef, undef, undef, undef], []⟩) (by kernel_rfl) ?_
      refine wp_ret ?_
      refine then_ret ?_
      exact end1 (Tryd.results9) (by kernel_rfl) (by kernel_rfl) HA H _ (.inr rfl)
    · refine wp_skip ?_
      refine then_normal ?_
      refine fr_eq (b := ⟨#[x0, x1, undef, undef, (.bool false), x1, x6, x6, (D 0), (D 1), x10, undef, undef, undef, undef], []⟩) (by kernel_rfl) ?_
      refine wp_seq ?_
      refine lwp_list ?_
      refine ls_move (x := x0) (by kernel_rfl) (by kernel_rfl) ?_
      refine ls_move (x := x1) (by kernel_rfl) (by kernel_rfl) ?_
      refine ls_p (d := some 13) (by kernel_rfl) (by kernel_rfl) (p_nil (by kernel_rfl) H) (fun x13 H => ?_)
      refine ls_p (d := some 14) (by kernel_rfl) (by kernel_rfl) (p_off Tryd.underlying24 rfl (fun w => ⟨_, Tryd.sizeOf3 w⟩) rfl (by kernel_rfl) H) (fun x14 H => ?_)
      refine ls_d (d := none) (by kernel_rfl) (by kernel_rfl) HA (d_st Tryd.sizeOf3 (by kernel_rfl) (by kernel_rfl) H) (fun _ h w_1 H HA_1 => ?_)
      refine ls_nil ?_
      refine then_normal ?_
      refine fr_eq (b := ⟨#[x0, x1, undef, undef, (.bool false), x1, x6, x6, (D 0), (D 1), x10, x0, x1, x13, x14], []⟩) (by kernel_rfl) ?_
      refine wp_seq ?_
      refine lwp_list ?_
      refine ls_assign (x := (.bool true)) (by kernel_rfl) (by kernel_rfl) ?_
      refine ls_nil ?_
      refine then_normal ?_
      refine fr_eq (b := ⟨#[x0, x1, undef, undef, (.bool true), x1, x6, x6, (D 0), (D 1), x10, x0, x1, x13, x14], []⟩) (by kernel_rfl) ?_
      refine wp_ret ?_
      exact end1 (Tryd.results9) (by kernel_rfl) (by kernel_rfl) HA_1 H _ (.inr rfl)

end Go.Proofs.YtpgpbhbpamgboaaDoor
