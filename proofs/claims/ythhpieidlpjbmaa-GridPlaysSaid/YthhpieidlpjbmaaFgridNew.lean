/- The shallow reading of one function, and that the function does it. Written by a program. -/
import Derived.Test.YthhpieidlpjbmaaFnC
set_option linter.unusedVariables false
namespace Go.Proofs.Ythhpieidlpjbmaa
open Go Go.HW

def grid_New_S (x0 x1 : Value) (h : Heap) (R : Value → Heap → Prop) : Prop :=
  sLt x0 (.int .i64 1) fun x6 =>
  sOr x6 (fun k_2 =>
  sGt x0 (.int .i64 512) fun x9 =>
  k_2 x9) fun x10 =>
  sOr x10 (fun k_1 =>
  sLt x1 (.int .i64 1) fun x13 =>
  k_1 x13) fun x14 =>
  sOr x14 (fun k =>
  sGt x1 (.int .i64 512) fun x17 =>
  k x17) fun x18 =>
  sIf x18 (R (.pointer none) h) (sMul .i64 x0 x1 fun x23 =>
  sMk h x23 x23 #[.int .i32 0, .int .i64 0, .int .i64 0, .int .i64 0] 27 32 fun x24 h => 
  sBuild #[.int .i64 0, .int .i64 0, .slice none 0 0] [(0, 1, x0), (1, 1, x1), (2, 1, x24)] fun x25 =>
  sBox h x25 68 fun x26 h_1 => 
  R x26 h_1)
set_option maxRecDepth 100000 in
theorem grid_New_runs {x0 x1 : Value} {h : Heap} {R : Value → Heap → Prop} (H : grid_New_S x0 x1 h R) : grid_New_c x0 x1 h R := by
  unfold grid_New_S at H
  refine runs_of (b := ⟨#[x0, x1, undef, undef, undef, undef, undef, undef, undef, undef, undef, undef, undef, undef, undef, undef, undef, undef, undef, undef, undef, undef, undef, undef, undef, undef, undef], []⟩) Try.call11 Try.func11 rfl (by kernel_rfl) (fun w0 HA => ?_)
  refine wp_seq ?_
  refine lwp_list ?_
  refine ls_assign (x := (.pointer none)) (by kernel_rfl) (by kernel_rfl) ?_
  refine ls_nil ?_
  refine then_normal ?_
  refine fr_eq (b := ⟨#[x0, x1, undef, undef, (.pointer none), undef, undef, undef, undef, undef, undef, undef, undef, undef, undef, undef, undef, undef, undef, undef, undef, undef, undef, undef, undef, undef, undef], []⟩) (by kernel_rfl) ?_
  refine wp_seq ?_
  refine wp_seq ?_
  refine lwp_list ?_
  refine ls_move (x := x0) (by kernel_rfl) (by kernel_rfl) ?_
  refine ls_p (d := some 6) (by kernel_rfl) (by kernel_rfl) (p_sLt (by kernel_rfl) (by kernel_rfl) H) (fun x6 H => ?_)
  refine ls_move (x := x6) (by kernel_rfl) (by kernel_rfl) ?_
  refine ls_or [(), (), ()] (fun K a w => ∃ (D : Nat → Value) (x10 : Value), a = ⟨#[x0, x1, undef, undef, (.pointer none), x0, x6, x6, (D 0), (D 1), x10, undef, undef, undef, undef, undef, undef, undef, undef, undef, undef, undef, undef, undef, undef, undef, undef], []⟩ ∧ At w0 w h ∧ K x10) H (fun hb_2 H => ?_) (fun hb_2 H => ?_) ?_
  · refine ls_move (x := x0) (by rw [hb_2]; kernel_rfl) (by kernel_rfl) ?_
    refine ls_p (d := some 9) (by kernel_rfl) (by rw [hb_2]; kernel_rfl) (p_sGt (by kernel_rfl) (by kernel_rfl) H) (fun x9 H => ?_)
    refine ls_pick_f (y := x9) (by kernel_rfl) (by rw [hb_2]; kernel_rfl) (by kernel_rfl) ?_
    refine ls_nil ?_
    refine then_normal ?_
    exact ⟨(fun i => ([x0, x9]).getD i undef), x9, by kernel_rfl, HA, H⟩
  · refine ls_skip (d := some 8) (by kernel_rfl) (by rw [hb_2]; kernel_rfl) ?_
    refine ls_skip (d := some 9) (by kernel_rfl) (by rw [hb_2]; kernel_rfl) ?_
    refine ls_pick_t (x := (.bool true)) (by kernel_rfl) (by rw [hb_2]; kernel_rfl) (by kernel_rfl) ?_
    refine ls_nil ?_
    refine then_normal ?_
    exact ⟨(fun i => ([undef, undef]).getD i undef), (.bool true), by kernel_rfl, HA, H⟩
  · rintro _ w ⟨D, x10, rfl, HA, H⟩
    refine ls_move (x := x10) (by kernel_rfl) (by kernel_rfl) ?_
    refine ls_or [(), (), ()] (fun K a w => ∃ (D_1 : Nat → Value) (x14 : Value), a = ⟨#[x0, x1, undef, undef, (.pointer none), x0, x6, x6, (D 0), (D 1), x10, x10, (D_1 0), (D_1 1), x14, undef, undef, undef, undef, undef, undef, undef, undef, undef, undef, undef, undef], []⟩ ∧ At w0 w h ∧ K x14) H (fun hb_1 H => ?_) (fun hb_1 H => ?_) ?_
    · refine ls_move (x := x1) (by rw [hb_1]; kernel_rfl) (by kernel_rfl) ?_
      refine ls_p (d := some 13) (by kernel_rfl) (by rw [hb_1]; kernel_rfl) (p_sLt (by kernel_rfl) (by kernel_rfl) H) (fun x13 H => ?_)
      refine ls_pick_f (y := x13) (by kernel_rfl) (by rw [hb_1]; kernel_rfl) (by kernel_rfl) ?_
      refine ls_nil ?_
      refine then_normal ?_
      exact ⟨(fun i => ([x1, x13]).getD i undef), x13, by kernel_rfl, HA, H⟩
    · refine ls_skip (d := some 12) (by kernel_rfl) (by rw [hb_1]; kernel_rfl) ?_
      refine ls_skip (d := some 13) (by kernel_rfl) (by rw [hb_1]; kernel_rfl) ?_
      refine ls_pick_t (x := (.bool true)) (by kernel_rfl) (by rw [hb_1]; kernel_rfl) (by kernel_rfl) ?_
      refine ls_nil ?_
      refine then_normal ?_
      exact ⟨(fun i => ([undef, undef]).getD i undef), (.bool true), by kernel_rfl, HA, H⟩
    · rintro _ w_1 ⟨D_1, x14, rfl, HA_1, H⟩
      refine ls_move (x := x14) (by kernel_rfl) (by kernel_rfl) ?_
      refine ls_or [(), (), ()] (fun K a w => ∃ (D_2 : Nat → Value) (x18 : Value), a = ⟨#[x0, x1, undef, undef, (.pointer none), x0, x6, x6, (D 0), (D 1), x10, x10, (D_1 0), (D_1 1), x14, x14, (D_2 0), (D_2 1), x18, undef, undef, undef, undef, undef, undef, undef, undef], []⟩ ∧ At w0 w h ∧ K x18) H (fun hb H => ?_) (fun hb H => ?_) ?_
      · refine ls_move (x := x1) (by rw [hb]; kernel_rfl) (by kernel_rfl) ?_
        refine ls_p (d := some 17) (by kernel_rfl) (by rw [hb]; kernel_rfl) (p_sGt (by kernel_rfl) (by kernel_rfl) H) (fun x17 H => ?_)
        refine ls_pick_f (y := x17) (by kernel_rfl) (by rw [hb]; kernel_rfl) (by kernel_rfl) ?_
        refine ls_nil ?_
        refine then_normal ?_
        exact ⟨(fun i => ([x1, x17]).getD i undef), x17, by kernel_rfl, HA_1, H⟩
      · refine ls_skip (d := some 16) (by kernel_rfl) (by rw [hb]; kernel_rfl) ?_
        refine ls_skip (d := some 17) (by kernel_rfl) (by rw [hb]; kernel_rfl) ?_
        refine ls_pick_t (x := (.bool true)) (by kernel_rfl) (by rw [hb]; kernel_rfl) (by kernel_rfl) ?_
        refine ls_nil ?_
        refine then_normal ?_
        exact ⟨(fun i => ([undef, undef]).getD i undef), (.bool true), by kernel_rfl, HA_1, H⟩
      · rintro _ w_2 ⟨D_2, x18, rfl, HA_2, H⟩
        refine ls_nil ?_
        refine then_normal ?_
        refine fr_eq (b := ⟨#[x0, x1, undef, undef, (.pointer none), x0, x6, x6, (D 0), (D 1), x10, x10, (D_1 0), (D_1 1), x14, x14, (D_2 0), (D_2 1), x18, undef, undef, undef, undef, undef, undef, undef, undef], []⟩) (by kernel_rfl) ?_
        refine wp_if rfl H (fun H => ?_) (fun H => ?_)
        · refine wp_seq ?_
          refine lwp_list ?_
          refine ls_assign (x := (.pointer none)) (by kernel_rfl) (by kernel_rfl) ?_
          refine ls_nil ?_
          refine then_normal ?_
          refine fr_eq (b := ⟨#[x0, x1, undef, undef, (.pointer none), x0, x6, x6, (D 0), (D 1), x10, x10, (D_1 0), (D_1 1), x14, x14, (D_2 0), (D_2 1), x18, undef, undef, undef, undef, undef, undef, undef, undef], []⟩) (by kernel_rfl) ?_
          refine wp_ret ?_
          refine then_ret ?_
          exact end1 (Try.results11) (by kernel_rfl) (by kernel_rfl) HA_2 H _ (.inr rfl)
        · refine wp_skip ?_
          refine then_normal ?_
          refine fr_eq (b := ⟨#[x0, x1, undef, undef, (.pointer none), x0, x6, x6, (D 0), (D 1), x10, x10, (D_1 0), (D_1 1), x14, x14, (D_2 0), (D_2 1), x18, undef, undef, undef, undef, undef, undef, undef, undef], []⟩) (by kernel_rfl) ?_
          refine wp_seq ?_
          refine lwp_list ?_
          refine ls_move (x := x0) (by kernel_rfl) (by kernel_rfl) ?_
          refine ls_move (x := x1) (by kernel_rfl) (by kernel_rfl) ?_
          refine ls_move (x := x0) (by kernel_rfl) (by kernel_rfl) ?_
          refine ls_move (x := x1) (by kernel_rfl) (by kernel_rfl) ?_
          refine ls_p (d := some 23) (by kernel_rfl) (by kernel_rfl) (p_mul (by kernel_rfl) (by kernel_rfl) H) (fun x23 H => ?_)
          refine ls_d (d := some 24) (by kernel_rfl) (by kernel_rfl) HA_2 (d_mk (z := #[.int .i32 0, .int .i64 0, .int .i64 0, .int .i64 0]) Try.underlying35 Try.typeInfo27 Try.sizeOf27 Try.zeroValue27 (by kernel_rfl) (by kernel_rfl) H) (fun x24 h w_3 H HA_3 => ?_)
          refine ls_fr (b := ⟨#[x0, x1, undef, undef, (.pointer none), x0, x6, x6, (D 0), (D 1), x10, x10, (D_1 0), (D_1 1), x14, x14, (D_2 0), (D_2 1), x18, x0, x1, x0, x1, x23, x24, undef, undef], []⟩) (by kernel_rfl) ?_
          refine ls_p (d := some 25) (by kernel_rfl) (by kernel_rfl) (p_lit (pl := [(0, 1), (1, 1), (2, 1)]) Try.zeroValue68 Try.underlying68 ⟨(by kernel_rfl), Try.sizeOf3, (by kernel_rfl), Try.sizeOf3, (by kernel_rfl), Try.sizeOf35, trivial⟩ (by kernel_rfl) (by kernel_rfl) H) (fun x25 H => ?_)
          refine ls_d (d := some 26) (by kernel_rfl) (by kernel_rfl) HA_3 (d_box (by kernel_rfl) H) (fun x26 h_1 w_4 H HA_4 => ?_)
          refine ls_assign (x := x26) (by kernel_rfl) (by kernel_rfl) ?_
          refine ls_nil ?_
          refine then_normal ?_
          refine fr_eq (b := ⟨#[x0, x1, undef, undef, x26, x0, x6, x6, (D 0), (D 1), x10, x10, (D_1 0), (D_1 1), x14, x14, (D_2 0), (D_2 1), x18, x0, x1, x0, x1, x23, x24, x25, x26], []⟩) (by kernel_rfl) ?_
          refine wp_ret ?_
          exact end1 (Try.results11) (by kernel_rfl) (by kernel_rfl) HA_4 H _ (.inr rfl)

end Go.Proofs.Ythhpieidlpjbmaa
