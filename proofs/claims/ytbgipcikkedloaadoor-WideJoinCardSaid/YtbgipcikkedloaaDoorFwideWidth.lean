/- The shallow reading of one function, and that the function does it. Written by a program. -/
import Derived.Test.YtbgipcikkedloaaDoorFnC
set_option linter.unusedVariables false
namespace Go.Proofs.YtbgipcikkedloaaDoor
open Go Go.HW

def wide_Width_S (x0 : Value) (h : Heap) (R : Value → Heap → Prop) : Prop :=
  sLt x0 (.int .i32 32) fun x5 =>
  sOr x5 (fun k_1 =>
  sGe x0 (.int .i32 127) fun x8 =>
  sAnd x8 (fun k_2 =>
  sLt x0 (.int .i32 160) fun x11 =>
  k_2 x11) fun x12 =>
  k_1 x12) fun x13 =>
  sOr x13 (fun k =>
  sGt x0 (.int .i32 1114111) fun x16 =>
  k x16) fun x17 =>
  sIf x17 (R (.int .i64 (-1)) h) (sSlA (.pointer (some ⟨0, 0, none⟩)) none none 9 2 fun x19 =>
  wide_in_c x19 x0 h fun x21 h => 
  sIf x21 (R (.int .i64 0) h) (sSlA (.pointer (some ⟨1, 0, none⟩)) none none 14 2 fun x23 =>
  wide_in_c x23 x0 h fun x25 h_1 => 
  sIf x25 (R (.int .i64 2) h_1) (R (.int .i64 1) h_1)))
set_option maxRecDepth 100000 in
theorem wide_Width_runs {x0 : Value} {h : Heap} {R : Value → Heap → Prop} (H : wide_Width_S x0 h R) : wide_Width_c x0 h R := by
  unfold wide_Width_S at H
  refine runs_of (b := ⟨#[x0, undef, undef, undef, undef, undef, undef, undef, undef, undef, undef, undef, undef, undef, undef, undef, undef, undef, undef, undef, undef, undef, undef, undef, undef, undef], []⟩) Tryd.call6 Tryd.func6 rfl (by kernel_rfl) (fun w0 HA => ?_)
  refine wp_seq ?_
  refine lwp_list ?_
  refine ls_assign (x := (.int .i64 0)) (by kernel_rfl) (by kernel_rfl) ?_
  refine ls_nil ?_
  refine then_normal ?_
  refine fr_eq (b := ⟨#[x0, undef, (.int .i64 0), undef, undef, undef, undef, undef, undef, undef, undef, undef, undef, undef, undef, undef, undef, undef, undef, undef, undef, undef, undef, undef, undef, undef], []⟩) (by kernel_rfl) ?_
  refine wp_seq ?_
  refine wp_block ?_
  refine wp_seq ?_
  refine lwp_list ?_
  refine ls_move (x := x0) (by kernel_rfl) (by kernel_rfl) ?_
  refine ls_p (d := some 5) (by kernel_rfl) (by kernel_rfl) (p_sLt (by kernel_rfl) (by kernel_rfl) H) (fun x5 H => ?_)
  refine ls_move (x := x5) (by kernel_rfl) (by kernel_rfl) ?_
  refine ls_or [(), (), (), (), (), (), ()] (fun K a w => ∃ (D : Nat → Value) (x13 : Value), a = ⟨#[x0, undef, (.int .i64 0), undef, x0, x5, x5, (D 0), (D 1), (D 2), (D 3), (D 4), (D 5), x13, undef, undef, undef, undef, undef, undef, undef, undef, undef, undef, undef, undef], []⟩ ∧ At w0 w h ∧ K x13) H (fun hb_1 H => ?_) (fun hb_1 H => ?_) ?_
  · refine ls_move (x := x0) (by rw [hb_1]; kernel_rfl) (by kernel_rfl) ?_
    refine ls_p (d := some 8) (by kernel_rfl) (by rw [hb_1]; kernel_rfl) (p_sGe (by kernel_rfl) (by kernel_rfl) H) (fun x8 H => ?_)
    refine ls_move (x := x8) (by rw [hb_1]; kernel_rfl) (by kernel_rfl) ?_
    refine ls_fr (b := ⟨#[x0, undef, (.int .i64 0), undef, x0, x5, x5, x0, x8, x8, undef, undef, undef, undef, undef, undef, undef, undef, undef, undef, undef, undef, undef, undef, undef, undef], []⟩) (by kernel_rfl) ?_
    refine ls_and [(), (), ()] (fun K a w => ∃ (D_2 : Nat → Value) (x12 : Value), a = ⟨#[x0, undef, (.int .i64 0), undef, x0, x5, x5, x0, x8, x8, (D_2 0), (D_2 1), x12, undef, undef, undef, undef, undef, undef, undef, undef, undef, undef, undef, undef, undef], []⟩ ∧ At w0 w h ∧ K x12) H (fun hb_2 H => ?_) (fun hb_2 H => ?_) ?_
    · refine ls_move (x := x0) (by rw [hb_2]; kernel_rfl) (by kernel_rfl) ?_
      refine ls_p (d := some 11) (by kernel_rfl) (by rw [hb_2]; kernel_rfl) (p_sLt (by kernel_rfl) (by kernel_rfl) H) (fun x11 H => ?_)
      refine ls_pick_t (x := x11) (by rw [hb_1]; kernel_rfl) (by rw [hb_2]; kernel_rfl) (by kernel_rfl) ?_
      refine ls_nil ?_
      refine then_normal ?_
      exact ⟨(fun i => ([x0, x11]).getD i undef), x11, by kernel_rfl, HA, H⟩
    · refine ls_skip (d := some 10) (by kernel_rfl) (by rw [hb_2]; kernel_rfl) ?_
      refine ls_skip (d := some 11) (by kernel_rfl) (by rw [hb_2]; kernel_rfl) ?_
      refine ls_pick_f (y := (.bool false)) (by rw [hb_1]; kernel_rfl) (by rw [hb_2]; kernel_rfl) (by kernel_rfl) ?_
      refine ls_nil ?_
      refine then_normal ?_
      exact ⟨(fun i => ([undef, undef]).getD i undef), (.bool false), by kernel_rfl, HA, H⟩
    · rintro _ w_4 ⟨D_2, x12, rfl, HA_4, H⟩
      refine ls_pick_f (y := x12) (by kernel_rfl) (by rw [hb_1]; kernel_rfl) (by kernel_rfl) ?_
      refine ls_nil ?_
      refine then_normal ?_
      exact ⟨(fun i => ([x0, x8, x8, (D_2 0), (D_2 1), x12]).getD i undef), x12, by kernel_rfl, HA_4, H⟩
  · refine ls_skip (d := some 7) (by kernel_rfl) (by rw [hb_1]; kernel_rfl) ?_
    refine ls_skip (d := some 8) (by kernel_rfl) (by rw [hb_1]; kernel_rfl) ?_
    refine ls_skip (d := some 9) (by kernel_rfl) (by rw [hb_1]; kernel_rfl) ?_
    refine ls_fr (b := ⟨#[x0, undef, (.int .i64 0), undef, x0, x5, x5, undef, undef, undef, undef, undef, undef, undef, undef, undef, undef, undef, undef, undef, undef, undef, undef, undef, undef, undef], []⟩) (by kernel_rfl) ?_
    refine ls_skip (d := some 10) (by kernel_rfl) (by kernel_rfl) ?_
    refine ls_skip (d := some 11) (by kernel_rfl) (by kernel_rfl) ?_
    refine ls_skip (d := some 12) (by kernel_rfl) (by rw [hb_1]; kernel_rfl) ?_
    refine ls_pick_t (x := (.bool true)) (by kernel_rfl) (by rw [hb_1]; kernel_rfl) (by kernel_rfl) ?_
    refine ls_nil ?_
    refine then_normal ?_
    exact ⟨(fun i => ([undef, undef, undef, undef, undef, undef]).getD i undef), (.bool true), by kernel_rfl, HA, H⟩
  · rintro _ w ⟨D, x13, rfl, HA, H⟩
    refine ls_move (x := x13) (by kernel_rfl) (by kernel_rfl) ?_
    refine ls_or [(), (), ()] (fun K a w => ∃ (D_1 : Nat → Value) (x17 : Value), a = ⟨#[x0, undef, (.int .i64 0), undef, x0, x5, x5, (D 0), (D 1), (D 2), (D 3), (D 4), (D 5), x13, x13, (D_1 0), (D_1 1), x17, undef, undef, undef, undef, undef, undef, undef, undef], []⟩ ∧ At w0 w h ∧ K x17) H (fun hb H => ?_) (fun hb H => ?_) ?_
    · refine ls_move (x := x0) (by rw [hb]; kernel_rfl) (by kernel_rfl) ?_
      refine ls_p (d := some 16) (by kernel_rfl) (by rw [hb]; kernel_rfl) (p_sGt (by kernel_rfl) (by kernel_rfl) H) (fun x16 H => ?_)
      refine ls_pick_f (y := x16) (by kernel_rfl) (by rw [hb]; kernel_rfl) (by kernel_rfl) ?_
      refine ls_nil ?_
      refine then_normal ?_
      exact ⟨(fun i => ([x0, x16]).getD i undef), x16, by kernel_rfl, HA, H⟩
    · refine ls_skip (d := some 15) (by kernel_rfl) (by rw [hb]; kernel_rfl) ?_
      refine ls_skip (d := some 16) (by kernel_rfl) (by rw [hb]; kernel_rfl) ?_
      refine ls_pick_t (x := (.bool true)) (by kernel_rfl) (by rw [hb]; kernel_rfl) (by kernel_rfl) ?_
      refine ls_nil ?_
      refine then_normal ?_
      exact ⟨(fun i => ([undef, undef]).getD i undef), (.bool true), by kernel_rfl, HA, H⟩
    · rintro _ w_1 ⟨D_1, x17, rfl, HA_1, H⟩
      refine ls_assign (x := x17) (by kernel_rfl) (by kernel_rfl) ?_
      refine ls_nil ?_
      refine then_normal ?_
      refine fr_eq (b := ⟨#[x0, undef, (.int .i64 0), x17, x0, x5, x5, (D 0), (D 1), (D 2), (D 3), (D 4), (D 5), x13, x13, (D_1 0), (D_1 1), x17, undef, undef, undef, undef, undef, undef, undef, undef], []⟩) (by kernel_rfl) ?_
      refine wp_if rfl H (fun H => ?_) (fun H => ?_)
      · refine wp_seq ?_
        refine lwp_list ?_
        refine ls_assign (x := (.int .i64 (-1))) (by kernel_rfl) (by kernel_rfl) ?_
        refine ls_nil ?_
        refine then_normal ?_
        refine fr_eq (b := ⟨#[x0, undef, (.int .i64 (-1)), x17, x0, x5, x5, (D 0), (D 1), (D 2), (D 3), (D 4), (D 5), x13, x13, (D_1 0), (D_1 1), x17, undef, undef, undef, undef, undef, undef, undef, undef], []⟩) (by kernel_rfl) ?_
        refine wp_ret ?_
        refine block_ret ?_
        refine then_ret ?_
        exact end1 (Tryd.results6) (by kernel_rfl) (by kernel_rfl) HA_1 H _ (.inr rfl)
      · refine wp_seq ?_
        refine lwp_list ?_
        refine ls_p (d := some 19) (by kernel_rfl) (by kernel_rfl) (p_sla Tryd.underlying35 Tryd.sizeOf34 (by kernel_rfl) (by kernel_rfl) (by kernel_rfl) H) (fun x19 H => ?_)
        refine ls_move (x := x0) (by kernel_rfl) (by kernel_rfl) ?_
        refine ls_d (d := some 21) (by kernel_rfl) (by kernel_rfl) HA_1 (d_call (by kernel_rfl) (by kernel_rfl) H) (fun x21 h w_2 H HA_2 => ?_)
        refine ls_assign (x := x21) (by kernel_rfl) (by kernel_rfl) ?_
        refine ls_nil ?_
        refine then_normal ?_
        refine fr_eq (b := ⟨#[x0, undef, (.int .i64 0), x17, x0, x5, x5, (D 0), (D 1), (D 2), (D 3), (D 4), (D 5), x13, x13, (D_1 0), (D_1 1), x17, x21, x19, x0, x21, undef, undef, undef, undef], []⟩) (by kernel_rfl) ?_
        refine wp_if rfl H (fun H => ?_) (fun H => ?_)
        · refine wp_seq ?_
          refine lwp_list ?_
          refine ls_assign (x := (.int .i64 0)) (by kernel_rfl) (by kernel_rfl) ?_
          refine ls_nil ?_
          refine then_normal ?_
          refine fr_eq (b := ⟨#[x0, undef, (.int .i64 0), x17, x0, x5, x5, (D 0), (D 1), (D 2), (D 3), (D 4), (D 5), x13, x13, (D_1 0), (D_1 1), x17, x21, x19, x0, x21, undef, undef, undef, undef], []⟩) (by kernel_rfl) ?_
          refine wp_ret ?_
          refine block_ret ?_
          refine then_ret ?_
          exact end1 (Tryd.results6) (by kernel_rfl) (by kernel_rfl) HA_2 H _ (.inr rfl)
        · refine wp_seq ?_
          refine lwp_list ?_
          refine ls_p (d := some 23) (by kernel_rfl) (by kernel_rfl) (p_sla Tryd.underlying36 Tryd.sizeOf34 (by kernel_rfl) (by kernel_rfl) (by kernel_rfl) H) (fun x23 H => ?_)
          refine ls_move (x := x0) (by kernel_rfl) (by kernel_rfl) ?_
          refine ls_d (d := some 25) (by kernel_rfl) (by kernel_rfl) HA_2 (d_call (by kernel_rfl) (by kernel_rfl) H) (fun x25 h_1 w_3 H HA_3 => ?_)
          refine ls_assign (x := x25) (by kernel_rfl) (by kernel_rfl) ?_
          refine ls_nil ?_
          refine then_normal ?_
          refine fr_eq (b := ⟨#[x0, undef, (.int .i64 0), x17, x0, x5, x5, (D 0), (D 1), (D 2), (D 3), (D 4), (D 5), x13, x13, (D_1 0), (D_1 1), x17, x21, x19, x0, x21, x25, x23, x0, x25], []⟩) (by kernel_rfl) ?_
          refine wp_if rfl H (fun H => ?_) (fun H => ?_)
          · refine wp_seq ?_
            refine lwp_list ?_
            refine ls_assign (x := (.int .i64 2)) (by kernel_rfl) (by kernel_rfl) ?_
            refine ls_nil ?_
            refine then_normal ?_
            refine fr_eq (b := ⟨#[x0, undef, (.int .i64 2), x17, x0, x5, x5, (D 0), (D 1), (D 2), (D 3), (D 4), (D 5), x13, x13, (D_1 0), (D_1 1), x17, x21, x19, x0, x21, x25, x23, x0, x25], []⟩) (by kernel_rfl) ?_
            refine wp_ret ?_
            refine block_ret ?_
            refine then_ret ?_
            exact end1 (Tryd.results6) (by kernel_rfl) (by kernel_rfl) HA_3 H _ (.inr rfl)
          · refine wp_skip ?_
            refine block_normal ?_
            refine then_normal ?_
            refine fr_eq (b := ⟨#[x0, undef, (.int .i64 0), x17, x0, x5, x5, (D 0), (D 1), (D 2), (D 3), (D 4), (D 5), x13, x13, (D_1 0), (D_1 1), x17, x21, x19, x0, x21, x25, x23, x0, x25], []⟩) (by kernel_rfl) ?_
            refine wp_seq ?_
            refine lwp_list ?_
            refine ls_assign (x := (.int .i64 1)) (by kernel_rfl) (by kernel_rfl) ?_
            refine ls_nil ?_
            refine then_normal ?_
            refine fr_eq (b := ⟨#[x0, undef, (.int .i64 1), x17, x0, x5, x5, (D 0), (D 1), (D 2), (D 3), (D 4), (D 5), x13, x13, (D_1 0), (D_1 1), x17, x21, x19, x0, x21, x25, x23, x0, x25], []⟩) (by kernel_rfl) ?_
            refine wp_ret ?_
            exact end1 (Tryd.results6) (by kernel_rfl) (by kernel_rfl) HA_3 H _ (.inr rfl)

end Go.Proofs.YtbgipcikkedloaaDoor
