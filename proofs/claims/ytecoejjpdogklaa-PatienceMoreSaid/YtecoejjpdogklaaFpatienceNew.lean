/- The shallow reading of one function, and that the function does it. Written by a program. -/
import Derived.Test.YtecoejjpdogklaaFnC
set_option linter.unusedVariables false
namespace Go.Proofs.Ytecoejjpdogklaa
open Go Go.HW

def patience_New_S (x0 x1 x2 x3 : Value) (h : Heap) (R : Value → Heap → Prop) : Prop :=
  patience_within_c x0 (.int .i64 255) h fun x11 h => 
  sNot x11 fun x12 =>
  sOrH x12 h (fun k_2 =>
  patience_within_c x1 (.int .i64 255) h fun x15 h_8 => 
  sNot x15 fun x16 =>
  k_2 x16 h_8) fun x17 h_1 =>
  sOrH x17 h_1 (fun k_1 =>
  patience_within_c x2 (.int .i64 1048576) h_1 fun x20 h_7 => 
  sNot x20 fun x21 =>
  k_1 x21 h_7) fun x22 h_2 =>
  sOrH x22 h_2 (fun k =>
  patience_within_c x3 (.int .i64 1048576) h_2 fun x25 h_6 => 
  sNot x25 fun x26 =>
  k x26 h_6) fun x27 h_3 =>
  sIf x27 (R (.pointer none) h_3) (sBuild #[.int .i64 0, .int .i64 0, .int .i64 0, .int .i64 0, .int .i64 0, .bool false] [(0, 1, x0), (1, 1, x1), (2, 1, x2), (3, 1, x3)] fun x32 =>
  sBox h_3 x32 82 fun x33 h_4 => 
  patience_Wait_look_c x33 h_4 fun x35 h_5 => 
  R x33 h_5)
set_option maxRecDepth 100000 in
theorem patience_New_runs {x0 x1 x2 x3 : Value} {h : Heap} {R : Value → Heap → Prop} (H : patience_New_S x0 x1 x2 x3 h R) : patience_New_c x0 x1 x2 x3 h R := by
  unfold patience_New_S at H
  refine runs_of (b := ⟨#[x0, x1, x2, x3, undef, undef, undef, undef, undef, undef, undef, undef, undef, undef, undef, undef, undef, undef, undef, undef, undef, undef, undef, undef, undef, undef, undef, undef, undef, undef, undef, undef, undef, undef, undef, undef, undef], []⟩) Try.call15 Try.func15 rfl (by kernel_rfl) (fun w0 HA => ?_)
  refine wp_seq ?_
  refine lwp_list ?_
  refine ls_assign (x := (.pointer none)) (by kernel_rfl) (by kernel_rfl) ?_
  refine ls_nil ?_
  refine then_normal ?_
  refine fr_eq (b := ⟨#[x0, x1, x2, x3, undef, undef, undef, undef, (.pointer none), undef, undef, undef, undef, undef, undef, undef, undef, undef, undef, undef, undef, undef, undef, undef, undef, undef, undef, undef, undef, undef, undef, undef, undef, undef, undef, undef, undef], []⟩) (by kernel_rfl) ?_
  refine wp_seq ?_
  refine wp_seq ?_
  refine lwp_list ?_
  refine ls_move (x := x0) (by kernel_rfl) (by kernel_rfl) ?_
  refine ls_d (d := some 11) (by kernel_rfl) (by kernel_rfl) HA (d_call (by kernel_rfl) (by kernel_rfl) H) (fun x11 h w H HA => ?_)
  refine ls_p (d := some 12) (by kernel_rfl) (by kernel_rfl) (p_not (by kernel_rfl) H) (fun x12 H => ?_)
  refine ls_move (x := x12) (by kernel_rfl) (by kernel_rfl) ?_
  refine ls_orh [(), (), (), ()] (fun K a w => ∃ (D : Nat → Value) (x17 : Value) (h_1 : Heap), a = ⟨#[x0, x1, x2, x3, undef, undef, undef, undef, (.pointer none), undef, x0, x11, x12, x12, (D 0), (D 1), (D 2), x17, undef, undef, undef, undef, undef, undef, undef, undef, undef, undef, undef, undef, undef, undef, undef, undef, undef, undef, undef], []⟩ ∧ At w0 w h_1 ∧ K x17 h_1) H (fun hb_2 H => ?_) (fun hb_2 H => ?_) ?_
  · refine ls_move (x := x1) (by rw [hb_2]; kernel_rfl) (by kernel_rfl) ?_
    refine ls_d (d := some 15) (by kernel_rfl) (by rw [hb_2]; kernel_rfl) HA (d_call (by kernel_rfl) (by kernel_rfl) H) (fun x15 h_8 w_8 H HA_8 => ?_)
    refine ls_fr (b := ⟨#[x0, x1, x2, x3, undef, undef, undef, undef, (.pointer none), undef, x0, x11, x12, x12, x1, x15, undef, undef, undef, undef, undef, undef, undef, undef, undef, undef, undef, undef, undef, undef, undef, undef, undef, undef, undef, undef, undef], []⟩) (by kernel_rfl) ?_
    refine ls_p (d := some 16) (by kernel_rfl) (by rw [hb_2]; kernel_rfl) (p_not (by kernel_rfl) H) (fun x16 H => ?_)
    refine ls_pick_f (y := x16) (by kernel_rfl) (by rw [hb_2]; kernel_rfl) (by kernel_rfl) ?_
    refine ls_nil ?_
    refine then_normal ?_
    exact ⟨(fun i => ([x1, x15, x16]).getD i undef), x16, h_8, by kernel_rfl, HA_8, H⟩
  · refine ls_skip (d := some 14) (by kernel_rfl) (by rw [hb_2]; kernel_rfl) ?_
    refine ls_skip (d := some 15) (by kernel_rfl) (by rw [hb_2]; kernel_rfl) ?_
    refine ls_fr (b := ⟨#[x0, x1, x2, x3, undef, undef, undef, undef, (.pointer none), undef, x0, x11, x12, x12, undef, undef, undef, undef, undef, undef, undef, undef, undef, undef, undef, undef, undef, undef, undef, undef, undef, undef, undef, undef, undef, undef, undef], []⟩) (by kernel_rfl) ?_
    refine ls_skip (d := some 16) (by kernel_rfl) (by rw [hb_2]; kernel_rfl) ?_
    refine ls_pick_t (x := (.bool true)) (by kernel_rfl) (by rw [hb_2]; kernel_rfl) (by kernel_rfl) ?_
    refine ls_nil ?_
    refine then_normal ?_
    exact ⟨(fun i => ([undef, undef, undef]).getD i undef), (.bool true), h, by kernel_rfl, HA, H⟩
  · rintro _ w_1 ⟨D, x17, h_1, rfl, HA_1, H⟩
    refine ls_move (x := x17) (by kernel_rfl) (by kernel_rfl) ?_
    refine ls_orh [(), (), (), ()] (fun K a w => ∃ (D_1 : Nat → Value) (x22 : Value) (h_2 : Heap), a = ⟨#[x0, x1, x2, x3, undef, undef, undef, undef, (.pointer none), undef, x0, x11, x12, x12, (D 0), (D 1), (D 2), x17, x17, (D_1 0), (D_1 1), (D_1 2), x22, undef, undef, undef, undef, undef, undef, undef, undef, undef, undef, undef, undef, undef, undef], []⟩ ∧ At w0 w h_2 ∧ K x22 h_2) H (fun hb_1 H => ?_) (fun hb_1 H => ?_) ?_
    · refine ls_move (x := x2) (by rw [hb_1]; kernel_rfl) (by kernel_rfl) ?_
      refine ls_d (d := some 20) (by kernel_rfl) (by rw [hb_1]; kernel_rfl) HA_1 (d_call (by kernel_rfl) (by kernel_rfl) H) (fun x20 h_7 w_7 H HA_7 => ?_)
      refine ls_p (d := some 21) (by kernel_rfl) (by rw [hb_1]; kernel_rfl) (p_not (by kernel_rfl) H) (fun x21 H => ?_)
      refine ls_pick_f (y := x21) (by kernel_rfl) (by rw [hb_1]; kernel_rfl) (by kernel_rfl) ?_
      refine ls_nil ?_
      refine then_normal ?_
      exact ⟨(fun i => ([x2, x20, x21]).getD i undef), x21, h_7, by kernel_rfl, HA_7, H⟩
    · refine ls_skip (d := some 19) (by kernel_rfl) (by rw [hb_1]; kernel_rfl) ?_
      refine ls_skip (d := some 20) (by kernel_rfl) (by rw [hb_1]; kernel_rfl) ?_
      refine ls_skip (d := some 21) (by kernel_rfl) (by rw [hb_1]; kernel_rfl) ?_
      refine ls_pick_t (x := (.bool true)) (by kernel_rfl) (by rw [hb_1]; kernel_rfl) (by kernel_rfl) ?_
      refine ls_nil ?_
      refine then_normal ?_
      exact ⟨(fun i => ([undef, undef, undef]).getD i undef), (.bool true), h_1, by kernel_rfl, HA_1, H⟩
    · rintro _ w_2 ⟨D_1, x22, h_2, rfl, HA_2, H⟩
      refine ls_move (x := x22) (by kernel_rfl) (by kernel_rfl) ?_
      refine ls_orh [(), (), (), ()] (fun K a w => ∃ (D_2 : Nat → Value) (x27 : Value) (h_3 : Heap), a = ⟨#[x0, x1, x2, x3, undef, undef, undef, undef, (.pointer none), undef, x0, x11, x12, x12, (D 0), (D 1), (D 2), x17, x17, (D_1 0), (D_1 1), (D_1 2), x22, x22, (D_2 0), (D_2 1), (D_2 2), x27, undef, undef, undef, undef, undef, undef, undef, undef, undef], []⟩ ∧ At w0 w h_3 ∧ K x27 h_3) H (fun hb H => ?_) (fun hb H => ?_) ?_
      · refine ls_move (x := x3) (by rw [hb]; kernel_rfl) (by kernel_rfl) ?_
        refine ls_d (d := some 25) (by kernel_rfl) (by rw [hb]; kernel_rfl) HA_2 (d_call (by kernel_rfl) (by kernel_rfl) H) (fun x25 h_6 w_6 H HA_6 => ?_)
        refine ls_p (d := some 26) (by kernel_rfl) (by rw [hb]; kernel_rfl) (p_not (by kernel_rfl) H) (fun x26 H => ?_)
        refine ls_pick_f (y := x26) (by kernel_rfl) (by rw [hb]; kernel_rfl) (by kernel_rfl) ?_
        refine ls_nil ?_
        refine then_normal ?_
        exact ⟨(fun i => ([x3, x25, x26]).getD i undef), x26, h_6, by kernel_rfl, HA_6, H⟩
      · refine ls_skip (d := some 24) (by kernel_rfl) (by rw [hb]; kernel_rfl) ?_
        refine ls_skip (d := some 25) (by kernel_rfl) (by rw [hb]; kernel_rfl) ?_
        refine ls_skip (d := some 26) (by kernel_rfl) (by rw [hb]; kernel_rfl) ?_
        refine ls_pick_t (x := (.bool true)) (by kernel_rfl) (by rw [hb]; kernel_rfl) (by kernel_rfl) ?_
        refine ls_nil ?_
        refine then_normal ?_
        exact ⟨(fun i => ([undef, undef, undef]).getD i undef), (.bool true), h_2, by kernel_rfl, HA_2, H⟩
      · rintro _ w_3 ⟨D_2, x27, h_3, rfl, HA_3, H⟩
        refine ls_nil ?_
        refine then_normal ?_
        refine fr_eq (b := ⟨#[x0, x1, x2, x3, undef, undef, undef, undef, (.pointer none), undef, x0, x11, x12, x12, (D 0), (D 1), (D 2), x17, x17, (D_1 0), (D_1 1), (D_1 2), x22, x22, (D_2 0), (D_2 1), (D_2 2), x27, undef, undef, undef, undef, undef, undef, undef, undef, undef], []⟩) (by kernel_rfl) ?_
        refine wp_if rfl H (fun H => ?_) (fun H => ?_)
        · refine wp_seq ?_
          refine lwp_list ?_
          refine ls_assign (x := (.pointer none)) (by kernel_rfl) (by kernel_rfl) ?_
          refine ls_nil ?_
          refine then_normal ?_
          refine fr_eq (b := ⟨#[x0, x1, x2, x3, undef, undef, undef, undef, (.pointer none), undef, x0, x11, x12, x12, (D 0), (D 1), (D 2), x17, x17, (D_1 0), (D_1 1), (D_1 2), x22, x22, (D_2 0), (D_2 1), (D_2 2), x27, undef, undef, undef, undef, undef, undef, undef, undef, undef], []⟩) (by kernel_rfl) ?_
          refine wp_ret ?_
          refine then_ret ?_
          exact end1 (Try.results15) (by kernel_rfl) (by kernel_rfl) HA_3 H _ (.inr rfl)
        · refine wp_skip ?_
          refine then_normal ?_
          refine fr_eq (b := ⟨#[x0, x1, x2, x3, undef, undef, undef, undef, (.pointer none), undef, x0, x11, x12, x12, (D 0), (D 1), (D 2), x17, x17, (D_1 0), (D_1 1), (D_1 2), x22, x22, (D_2 0), (D_2 1), (D_2 2), x27, undef, undef, undef, undef, undef, undef, undef, undef, undef], []⟩) (by kernel_rfl) ?_
          refine wp_seq ?_
          refine lwp_list ?_
          refine ls_move (x := x0) (by kernel_rfl) (by kernel_rfl) ?_
          refine ls_move (x := x1) (by kernel_rfl) (by kernel_rfl) ?_
          refine ls_move (x := x2) (by kernel_rfl) (by kernel_rfl) ?_
          refine ls_move (x := x3) (by kernel_rfl) (by kernel_rfl) ?_
          refine ls_p (d := some 32) (by kernel_rfl) (by kernel_rfl) (p_lit (pl := [(0, 1), (1, 1), (2, 1), (3, 1), (4, 1), (5, 1)]) Try.zeroValue82 Try.underlying82 ⟨(by kernel_rfl), Try.sizeOf3, (by kernel_rfl), Try.sizeOf3, (by kernel_rfl), Try.sizeOf3, (by kernel_rfl), Try.sizeOf3, (by kernel_rfl), Try.sizeOf3, (by kernel_rfl), Try.sizeOf4, trivial⟩ (by kernel_rfl) (by kernel_rfl) H) (fun x32 H => ?_)
          refine ls_d (d := some 33) (by kernel_rfl) (by kernel_rfl) HA_3 (d_box (by kernel_rfl) H) (fun x33 h_4 w_4 H HA_4 => ?_)
          refine ls_fr (b := ⟨#[x0, x1, x2, x3, undef, undef, undef, undef, (.pointer none), undef, x0, x11, x12, x12, (D 0), (D 1), (D 2), x17, x17, (D_1 0), (D_1 1), (D_1 2), x22, x22, (D_2 0), (D_2 1), (D_2 2), x27, x0, x1, x2, x3, x32, x33, undef, undef, undef], []⟩) (by kernel_rfl) ?_
          refine ls_assign (x := x33) (by kernel_rfl) (by kernel_rfl) ?_
          refine ls_nil ?_
          refine then_normal ?_
          refine fr_eq (b := ⟨#[x0, x1, x2, x3, undef, undef, undef, undef, (.pointer none), x33, x0, x11, x12, x12, (D 0), (D 1), (D 2), x17, x17, (D_1 0), (D_1 1), (D_1 2), x22, x22, (D_2 0), (D_2 1), (D_2 2), x27, x0, x1, x2, x3, x32, x33, undef, undef, undef], []⟩) (by kernel_rfl) ?_
          refine wp_seq ?_
          refine lwp_list ?_
          refine ls_move (x := x33) (by kernel_rfl) (by kernel_rfl) ?_
          refine ls_d (d := some 35) (by kernel_rfl) (by kernel_rfl) HA_4 (d_call (by kernel_rfl) (by kernel_rfl) H) (fun x35 h_5 w_5 H HA_5 => ?_)
          refine ls_nil ?_
          refine then_normal ?_
          refine fr_eq (b := ⟨#[x0, x1, x2, x3, undef, undef, undef, undef, (.pointer none), x33, x0, x11, x12, x12, (D 0), (D 1), (D 2), x17, x17, (D_1 0), (D_1 1), (D_1 2), x22, x22, (D_2 0), (D_2 1), (D_2 2), x27, x0, x1, x2, x3, x32, x33, x33, x35, undef], []⟩) (by kernel_rfl) ?_
          refine wp_seq ?_
          refine lwp_list ?_
          refine ls_move (x := x33) (by kernel_rfl) (by kernel_rfl) ?_
          refine ls_assign (x := x33) (by kernel_rfl) (by kernel_rfl) ?_
          refine ls_nil ?_
          refine then_normal ?_
          refine fr_eq (b := ⟨#[x0, x1, x2, x3, undef, undef, undef, undef, x33, x33, x0, x11, x12, x12, (D 0), (D 1), (D 2), x17, x17, (D_1 0), (D_1 1), (D_1 2), x22, x22, (D_2 0), (D_2 1), (D_2 2), x27, x0, x1, x2, x3, x32, x33, x33, x35, x33], []⟩) (by kernel_rfl) ?_
          refine wp_ret ?_
          exact end1 (Try.results15) (by kernel_rfl) (by kernel_rfl) HA_5 H _ (.inr rfl)

end Go.Proofs.Ytecoejjpdogklaa
