/- The shallow reading of one function, and that the function does it. Written by a program. -/
import Derived.Test.YtpgpbhbpamgboaaDoorFnC
set_option linter.unusedVariables false
namespace Go.Proofs.YtpgpbhbpamgboaaDoor
open Go Go.HW

def betonyref25_Map_S (x0 x1 : Value) (h : Heap) (R : Value → Heap → Prop) : Prop :=
  sSlit h #[.int .i32 0, .int .i32 0, .int .i32 0, .int .i32 0, .int .i32 0, .int .i32 0, .int .i32 0, .int .i32 0, .int .i32 0, .int .i32 0, .int .i32 0, .int .i32 0, .int .i32 0, .int .i32 0, .int .i32 0, .int .i32 0, .int .i32 0, .int .i32 0, .int .i32 0, .int .i32 0, .int .i32 0, .int .i32 0, .int .i32 0, .int .i32 0, .int .i32 0, .int .i32 0, .int .i32 0, .int .i32 0, .int .i32 0, .int .i32 0, .int .i32 0, .int .i32 0] [(0, 1, (.int .i32 32)), (1, 1, (.int .i32 9670)), (2, 1, (.int .i32 9618)), (3, 1, (.int .i32 9225)), (4, 1, (.int .i32 9228)), (5, 1, (.int .i32 9229)), (6, 1, (.int .i32 9226)), (7, 1, (.int .i32 176)), (8, 1, (.int .i32 177)), (9, 1, (.int .i32 9252)), (10, 1, (.int .i32 9227)), (11, 1, (.int .i32 9496)), (12, 1, (.int .i32 9488)), (13, 1, (.int .i32 9484)), (14, 1, (.int .i32 9492)), (15, 1, (.int .i32 9532)), (16, 1, (.int .i32 9146)), (17, 1, (.int .i32 9147)), (18, 1, (.int .i32 9472)), (19, 1, (.int .i32 9148)), (20, 1, (.int .i32 9149)), (21, 1, (.int .i32 9500)), (22, 1, (.int .i32 9508)), (23, 1, (.int .i32 9524)), (24, 1, (.int .i32 9516)), (25, 1, (.int .i32 9474)), (26, 1, (.int .i32 8804)), (27, 1, (.int .i32 8805)), (28, 1, (.int .i32 960)), (29, 1, (.int .i32 8800)), (30, 1, (.int .i32 163)), (31, 1, (.int .i32 183))] 21 32 fun x6 h => 
  sEq x0 (.int .u8 65) fun x8 =>
  sAnd x8 (fun k_2 =>
  sEq x1 (.int .i32 35) fun x11 =>
  k_2 x11) fun x12 =>
  sIf x12 (R (.int .i32 163) h) (sEq x0 (.int .u8 48) fun x14 =>
  sAnd x14 (fun k_1 =>
  sGe x1 (.int .i32 95) fun x17 =>
  k_1 x17) fun x18 =>
  sAnd x18 (fun k =>
  sLe x1 (.int .i32 126) fun x21 =>
  k x21) fun x22 =>
  sIf x22 (sSub .i32 x1 (.int .i32 95) fun x25 =>
  sIxS x6 x25 1 fun x26 =>
  sLd h x26 fun x27 =>
  R x27 h) (R x1 h))
set_option maxRecDepth 100000 in
theorem betonyref25_Map_runs {x0 x1 : Value} {h : Heap} {R : Value → Heap → Prop} (H : betonyref25_Map_S x0 x1 h R) : betonyref25_Map_c x0 x1 h R := by
  unfold betonyref25_Map_S at H
  refine runs_of (b := ⟨#[x0, x1, undef, undef, undef, undef, undef, undef, undef, undef, undef, undef, undef, undef, undef, undef, undef, undef, undef, undef, undef, undef, undef, undef, undef, undef, undef, undef, undef], []⟩) Tryd.call12 Tryd.func12 rfl (by kernel_rfl) (fun w0 HA => ?_)
  refine wp_seq ?_
  refine lwp_list ?_
  refine ls_assign (x := (.int .i32 0)) (by kernel_rfl) (by kernel_rfl) ?_
  refine ls_nil ?_
  refine then_normal ?_
  refine fr_eq (b := ⟨#[x0, x1, undef, undef, (.int .i32 0), undef, undef, undef, undef, undef, undef, undef, undef, undef, undef, undef, undef, undef, undef, undef, undef, undef, undef, undef, undef, undef, undef, undef, undef], []⟩) (by kernel_rfl) ?_
  refine wp_seq ?_
  refine lwp_list ?_
  refine ls_d (d := some 6) (by kernel_rfl) (by kernel_rfl) HA (d_slit (zc := #[.int .i32 0]) Tryd.underlying42 Tryd.sizeOf21 (by decide) (.inr ⟨by decide, _, Tryd.zeroValue21, (by kernel_rfl)⟩) (by kernel_rfl) (by kernel_rfl) H) (fun x6 h w H HA => ?_)
  refine ls_assign (x := x6) (by kernel_rfl) (by kernel_rfl) ?_
  refine ls_nil ?_
  refine then_normal ?_
  refine fr_eq (b := ⟨#[x0, x1, undef, undef, (.int .i32 0), x6, x6, undef, undef, undef, undef, undef, undef, undef, undef, undef, undef, undef, undef, undef, undef, undef, undef, undef, undef, undef, undef, undef, undef], []⟩) (by kernel_rfl) ?_
  refine wp_seq ?_
  refine wp_seq ?_
  refine lwp_list ?_
  refine ls_move (x := x0) (by kernel_rfl) (by kernel_rfl) ?_
  refine ls_p (d := some 8) (by kernel_rfl) (by kernel_rfl) (p_sEq (by kernel_rfl) (by kernel_rfl) H) (fun x8 H => ?_)
  refine ls_move (x := x8) (by kernel_rfl) (by kernel_rfl) ?_
  refine ls_and [(), (), ()] (fun K a w => ∃ (D : Nat → Value) (x12 : Value), a = ⟨#[x0, x1, undef, undef, (.int .i32 0), x6, x6, x0, x8, x8, (D 0), (D 1), x12, undef, undef, undef, undef, undef, undef, undef, undef, undef, undef, undef, undef, undef, undef, undef, undef], []⟩ ∧ At w0 w h ∧ K x12) H (fun hb_2 H => ?_) (fun hb_2 H => ?_) ?_
  · refine ls_move (x := x1) (by rw [hb_2]; kernel_rfl) (by kernel_rfl) ?_
    refine ls_p (d := some 11) (by kernel_rfl) (by rw [hb_2]; kernel_rfl) (p_sEq (by kernel_rfl) (by kernel_rfl) H) (fun x11 H => ?_)
    refine ls_pick_t (x := x11) (by kernel_rfl) (by rw [hb_2]; kernel_rfl) (by kernel_rfl) ?_
    refine ls_nil ?_
    refine then_normal ?_
    exact ⟨(fun i => ([x1, x11]).getD i undef), x11, by kernel_rfl, HA, H⟩
  · refine ls_skip (d := some 10) (by kernel_rfl) (by rw [hb_2]; kernel_rfl) ?_
    refine ls_skip (d := some 11) (by kernel_rfl) (by rw [hb_2]; kernel_rfl) ?_
    refine ls_pick_f (y := (.bool false)) (by kernel_rfl) (by rw [hb_2]; kernel_rfl) (by kernel_rfl) ?_
    refine ls_nil ?_
    refine then_normal ?_
    exact ⟨(fun i => ([undef, undef]).getD i undef), (.bool false), by kernel_rfl, HA, H⟩
  · rintro _ w_1 ⟨D, x12, rfl, HA_1, H⟩
    refine ls_nil ?_
    refine then_normal ?_
    refine fr_eq (b := ⟨#[x0, x1, undef, undef, (.int .i32 0), x6, x6, x0, x8, x8, (D 0), (D 1), x12, undef, undef, undef, undef, undef, undef, undef, undef, undef, undef, undef, undef, undef, undef, undef, undef], []⟩) (by kernel_rfl) ?_
    refine wp_if rfl H (fun H => ?_) (fun H => ?_)
    · refine wp_seq ?_
      refine lwp_list ?_
      refine ls_assign (x := (.int .i32 163)) (by kernel_rfl) (by kernel_rfl) ?_
      refine ls_nil ?_
      refine then_normal ?_
      refine fr_eq (b := ⟨#[x0, x1, undef, undef, (.int .i32 163), x6, x6, x0, x8, x8, (D 0), (D 1), x12, undef, undef, undef, undef, undef, undef, undef, undef, undef, undef, undef, undef, undef, undef, undef, undef], []⟩) (by kernel_rfl) ?_
      refine wp_ret ?_
      refine then_ret ?_
      exact end1 (Tryd.results12) (by kernel_rfl) (by kernel_rfl) HA_1 H _ (.inr rfl)
    · refine wp_skip ?_
      refine then_normal ?_
      refine fr_eq (b := ⟨#[x0, x1, undef, undef, (.int .i32 0), x6, x6, x0, x8, x8, (D 0), (D 1), x12, undef, undef, undef, undef, undef, undef, undef, undef, undef, undef, undef, undef, undef, undef, undef, undef], []⟩) (by kernel_rfl) ?_
      refine wp_seq ?_
      refine wp_seq ?_
      refine lwp_list ?_
      refine ls_move (x := x0) (by kernel_rfl) (by kernel_rfl) ?_
      refine ls_p (d := some 14) (by kernel_rfl) (by kernel_rfl) (p_sEq (by kernel_rfl) (by kernel_rfl) H) (fun x14 H => ?_)
      refine ls_move (x := x14) (by kernel_rfl) (by kernel_rfl) ?_
      refine ls_and [(), (), ()] (fun K a w => ∃ (D_1 : Nat → Value) (x18 : Value), a = ⟨#[x0, x1, undef, undef, (.int .i32 0), x6, x6, x0, x8, x8, (D 0), (D 1), x12, x0, x14, x14, (D_1 0), (D_1 1), x18, undef, undef, undef, undef, undef, undef, undef, undef, undef, undef], []⟩ ∧ At w0 w h ∧ K x18) H (fun hb_1 H => ?_) (fun hb_1 H => ?_) ?_
      · refine ls_move (x := x1) (by rw [hb_1]; kernel_rfl) (by kernel_rfl) ?_
        refine ls_p (d := some 17) (by kernel_rfl) (by rw [hb_1]; kernel_rfl) (p_sGe (by kernel_rfl) (by kernel_rfl) H) (fun x17 H => ?_)
        refine ls_pick_t (x := x17) (by kernel_rfl) (by rw [hb_1]; kernel_rfl) (by kernel_rfl) ?_
        refine ls_nil ?_
        refine then_normal ?_
        exact ⟨(fun i => ([x1, x17]).getD i undef), x17, by kernel_rfl, HA_1, H⟩
      · refine ls_skip (d := some 16) (by kernel_rfl) (by rw [hb_1]; kernel_rfl) ?_
        refine ls_skip (d := some 17) (by kernel_rfl) (by rw [hb_1]; kernel_rfl) ?_
        refine ls_pick_f (y := (.bool false)) (by kernel_rfl) (by rw [hb_1]; kernel_rfl) (by kernel_rfl) ?_
        refine ls_nil ?_
        refine then_normal ?_
        exact ⟨(fun i => ([undef, undef]).getD i undef), (.bool false), by kernel_rfl, HA_1, H⟩
      · rintro _ w_2 ⟨D_1, x18, rfl, HA_2, H⟩
        refine ls_move (x := x18) (by kernel_rfl) (by kernel_rfl) ?_
        refine ls_and [(), (), ()] (fun K a w => ∃ (D_2 : Nat → Value) (x22 : Value), a = ⟨#[x0, x1, undef, undef, (.int .i32 0), x6, x6, x0, x8, x8, (D 0), (D 1), x12, x0, x14, x14, (D_1 0), (D_1 1), x18, x18, (D_2 0), (D_2 1), x22, undef, undef, undef, undef, undef, undef], []⟩ ∧ At w0 w h ∧ K x22) H (fun hb H => ?_) (fun hb H => ?_) ?_
        · refine ls_move (x := x1) (by rw [hb]; kernel_rfl) (by kernel_rfl) ?_
          refine ls_p (d := some 21) (by kernel_rfl) (by rw [hb]; kernel_rfl) (p_sLe (by kernel_rfl) (by kernel_rfl) H) (fun x21 H => ?_)
          refine ls_pick_t (x := x21) (by kernel_rfl) (by rw [hb]; kernel_rfl) (by kernel_rfl) ?_
          refine ls_nil ?_
          refine then_normal ?_
          exact ⟨(fun i => ([x1, x21]).getD i undef), x21, by kernel_rfl, HA_2, H⟩
        · refine ls_skip (d := some 20) (by kernel_rfl) (by rw [hb]; kernel_rfl) ?_
          refine ls_skip (d := some 21) (by kernel_rfl) (by rw [hb]; kernel_rfl) ?_
          refine ls_pick_f (y := (.bool false)) (by kernel_rfl) (by rw [hb]; kernel_rfl) (by kernel_rfl) ?_
          refine ls_nil ?_
          refine then_normal ?_
          exact ⟨(fun i => ([undef, undef]).getD i undef), (.bool false), by kernel_rfl, HA_2, H⟩
        · rintro _ w_3 ⟨D_2, x22, rfl, HA_3, H⟩
          refine ls_nil ?_
          refine then_normal ?_
          refine fr_eq (b := ⟨#[x0, x1, undef, undef, (.int .i32 0), x6, x6, x0, x8, x8, (D 0), (D 1), x12, x0, x14, x14, (D_1 0), (D_1 1), x18, x18, (D_2 0), (D_2 1), x22, undef, undef, undef, undef, undef, undef], []⟩) (by kernel_rfl) ?_
          refine wp_if rfl H (fun H => ?_) (fun H => ?_)
          · refine wp_seq ?_
            refine lwp_list ?_
            refine ls_move (x := x6) (by kernel_rfl) (by kernel_rfl) ?_
            refine ls_move (x := x1) (by kernel_rfl) (by kernel_rfl) ?_
            refine ls_p (d := some 25) (by kernel_rfl) (by kernel_rfl) (p_sub (by kernel_rfl) (by kernel_rfl) H) (fun x25 H => ?_)
            refine ls_p (d := some 26) (by kernel_rfl) (by kernel_rfl) (p_ixs Tryd.underlying42 Tryd.sizeOf21 (by kernel_rfl) (by kernel_rfl) H) (fun x26 H => ?_)
            refine ls_y (d := some 27) (by kernel_rfl) (by kernel_rfl) HA_3 (y_ld Tryd.isAgg21 (by kernel_rfl) H) (fun x27 H => ?_)
            refine ls_assign (x := x27) (by kernel_rfl) (by kernel_rfl) ?_
            refine ls_nil ?_
            refine then_normal ?_
            refine fr_eq (b := ⟨#[x0, x1, undef, undef, x27, x6, x6, x0, x8, x8, (D 0), (D 1), x12, x0, x14, x14, (D_1 0), (D_1 1), x18, x18, (D_2 0), (D_2 1), x22, x6, x1, x25, x26, x27, undef], []⟩) (by kernel_rfl) ?_
            refine wp_ret ?_
            refine then_ret ?_
            exact end1 (Tryd.results12) (by kernel_rfl) (by kernel_rfl) HA_3 H _ (.inr rfl)
          · refine wp_skip ?_
            refine then_normal ?_
            refine fr_eq (b := ⟨#[x0, x1, undef, undef, (.int .i32 0), x6, x6, x0, x8, x8, (D 0), (D 1), x12, x0, x14, x14, (D_1 0), (D_1 1), x18, x18, (D_2 0), (D_2 1), x22, undef, undef, undef, undef, undef, undef], []⟩) (by kernel_rfl) ?_
            refine wp_seq ?_
            refine lwp_list ?_
            refine ls_move (x := x1) (by kernel_rfl) (by kernel_rfl) ?_
            refine ls_assign (x := x1) (by kernel_rfl) (by kernel_rfl) ?_
            refine ls_nil ?_
            refine then_normal ?_
            refine fr_eq (b := ⟨#[x0, x1, undef, undef, x1, x6, x6, x0, x8, x8, (D 0), (D 1), x12, x0, x14, x14, (D_1 0), (D_1 1), x18, x18, (D_2 0), (D_2 1), x22, undef, undef, undef, undef, undef, x1], []⟩) (by kernel_rfl) ?_
            refine wp_ret ?_
            exact end1 (Tryd.results12) (by kernel_rfl) (by kernel_rfl) HA_3 H _ (.inr rfl)

end Go.Proofs.YtpgpbhbpamgboaaDoor
