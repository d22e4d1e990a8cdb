/- The shallow reading of one function, and that the function does it. Written by a program. -/
import Derived.Test.YthhpieidlpjbmaaFnC
set_option linter.unusedVariables false
namespace Go.Proofs.Ythhpieidlpjbmaa
open Go Go.HW

def betonylaw06_awake_l1 (R : Value → Heap → Prop) (x4 : Value) (next : Value → Heap → Prop) (x2 : Value) (h_1 : Heap) : Prop :=
  sLt x2 (.int .i64 3) fun x8 =>
  sIf x8 (sAdd .i64 (.int .i64 97) x2 fun x14 =>
  sConv .i32 x14 fun x15 =>
  sBuild #[.int .i32 0, .int .i64 0, .int .i64 0, .int .i64 0] [(0, 1, x15)] fun x16 =>
  grid_Grid_Set_c x4 x2 (.int .i64 0) x16 h_1 fun x17 h_2 => 
  sAdd .i64 x2 (.int .i64 1) fun x10 =>
  next x10 h_2) (sBuild #[.int .i64 0, .int .i64 0, .int .i64 0, .int .i64 0] [(2, 1, (.int .i64 3)), (3, 1, (.int .i64 1))] fun x19 =>
  grid_Grid_Copy_c x4 x19 (.int .i64 1) (.int .i64 0) h_1 fun x20 h_3 => 
  sEq x20 (.int .i64 2) fun x22 =>
  sAndH x22 h_3 (fun k_2 =>
  grid_Grid_At_c x4 (.int .i64 0) (.int .i64 0) h_3 fun x25 h_9 => 
  sFld x25 0 fun x26 =>
  sEq x26 (.int .i32 97) fun x27 =>
  k_2 x27 h_9) fun x28 h_4 =>
  sAndH x28 h_4 (fun k_1 =>
  grid_Grid_At_c x4 (.int .i64 1) (.int .i64 0) h_4 fun x31 h_8 => 
  sFld x31 0 fun x32 =>
  sEq x32 (.int .i32 97) fun x33 =>
  k_1 x33 h_8) fun x34 h_5 =>
  sAndH x34 h_5 (fun k =>
  grid_Grid_At_c x4 (.int .i64 2) (.int .i64 0) h_5 fun x37 h_7 => 
  sFld x37 0 fun x38 =>
  sEq x38 (.int .i32 98) fun x39 =>
  k x39 h_7) fun x40 h_6 =>
  R x40 h_6)
def betonylaw06_awake_S (h : Heap) (R : Value → Heap → Prop) : Prop :=
  grid_New_c (.int .i64 3) (.int .i64 1) h fun x4 h => 
  sEqlNil x4 fun x6 =>
  sIf x6 (R (.bool false) h) (sLoop (S := Value) (fun nxt s h => betonylaw06_awake_l1 R x4 (fun x2' h => nxt x2' h) s h) (.int .i64 0) h)
set_option maxRecDepth 100000 in
theorem betonylaw06_awake_runs {h : Heap} {R : Value → Heap → Prop} (H : betonylaw06_awake_S  h R) : betonylaw06_awake_c  h R := by
  unfold betonylaw06_awake_S at H
  refine runs_of (b := ⟨#[undef, undef, undef, undef, undef, undef, undef, undef, undef, undef, undef, undef, undef, undef, undef, undef, undef, undef, undef, undef, undef, undef, undef, undef, undef, undef, undef, undef, undef, undef, undef, undef, undef, undef, undef, undef, undef, undef, undef, undef, undef], []⟩) Try.call14 Try.func14 rfl (by kernel_rfl) (fun w0 HA => ?_)
  refine wp_seq ?_
  refine lwp_list ?_
  refine ls_assign (x := (.bool false)) (by kernel_rfl) (by kernel_rfl) ?_
  refine ls_nil ?_
  refine then_normal ?_
  refine fr_eq (b := ⟨#[(.bool false), undef, undef, undef, undef, undef, undef, undef, undef, undef, undef, undef, undef, undef, undef, undef, undef, undef, undef, undef, undef, undef, undef, undef, undef, undef, undef, undef, undef, undef, undef, undef, undef, undef, undef, undef, undef, undef, undef, undef, undef], []⟩) (by kernel_rfl) ?_
  refine wp_seq ?_
  refine lwp_list ?_
  refine ls_d (d := some 4) (by kernel_rfl) (by kernel_rfl) HA (d_call (by kernel_rfl) (by kernel_rfl) H) (fun x4 h w H HA => ?_)
  refine ls_assign (x := x4) (by kernel_rfl) (by kernel_rfl) ?_
  refine ls_nil ?_
  refine then_normal ?_
  refine fr_eq (b := ⟨#[(.bool false), x4, undef, undef, x4, undef, undef, undef, undef, undef, undef, undef, undef, undef, undef, undef, undef, undef, undef, undef, undef, undef, undef, undef, undef, undef, undef, undef, undef, undef, undef, undef, undef, undef, undef, undef, undef, undef, undef, undef, undef], []⟩) (by kernel_rfl) ?_
  refine wp_seq ?_
  refine wp_seq ?_
  refine lwp_list ?_
  refine ls_move (x := x4) (by kernel_rfl) (by kernel_rfl) ?_
  refine ls_p (d := some 6) (by kernel_rfl) (by kernel_rfl) (p_eqlNil Try.underlying28 (by kernel_rfl) (by kernel_rfl) H) (fun x6 H => ?_)
  refine ls_nil ?_
  refine then_normal ?_
  refine fr_eq (b := ⟨#[(.bool false), x4, undef, undef, x4, x4, x6, undef, undef, undef, undef, undef, undef, undef, undef, undef, undef, undef, undef, undef, undef, undef, undef, undef, undef, undef, undef, undef, undef, undef, undef, undef, undef, undef, undef, undef, undef, undef, undef, undef, undef], []⟩) (by kernel_rfl) ?_
  refine wp_if rfl H (fun H => ?_) (fun H => ?_)
  · refine wp_seq ?_
    refine lwp_list ?_
    refine ls_assign (x := (.bool false)) (by kernel_rfl) (by kernel_rfl) ?_
    refine ls_nil ?_
    refine then_normal ?_
    refine fr_eq (b := ⟨#[(.bool false), x4, undef, undef, x4, x4, x6, undef, undef, undef, undef, undef, undef, undef, undef, undef, undef, undef, undef, undef, undef, undef, undef, undef, undef, undef, undef, undef, undef, undef, undef, undef, undef, undef, undef, undef, undef, undef, undef, undef, undef], []⟩) (by kernel_rfl) ?_
    refine wp_ret ?_
    refine then_ret ?_
    exact end1 (Try.results14) (by kernel_rfl) (by kernel_rfl) HA H _ (.inr rfl)
  · refine wp_skip ?_
    refine then_normal ?_
    refine fr_eq (b := ⟨#[(.bool false), x4, undef, undef, x4, x4, x6, undef, undef, undef, undef, undef, undef, undef, undef, undef, undef, undef, undef, undef, undef, undef, undef, undef, undef, undef, undef, undef, undef, undef, undef, undef, undef, undef, undef, undef, undef, undef, undef, undef, undef], []⟩) (by kernel_rfl) ?_
    refine wp_seq ?_
    refine wp_seq ?_
    refine lwp_list ?_
    refine ls_assign (x := (.int .i64 0)) (by kernel_rfl) (by kernel_rfl) ?_
    refine ls_nil ?_
    refine then_normal ?_
    refine fr_eq (b := ⟨#[(.bool false), x4, (.int .i64 0), undef, x4, x4, x6, undef, undef, undef, undef, undef, undef, undef, undef, undef, undef, undef, undef, undef, undef, undef, undef, undef, undef, undef, undef, undef, undef, undef, undef, undef, undef, undef, undef, undef, undef, undef, undef, undef, undef], []⟩) (by kernel_rfl) ?_
    refine wp_block ?_
    obtain ⟨I, m, H0, HB⟩ := H
    refine wp_loop (fun a w => ∃ (D : Nat → Value) (x2 : Value) (h_1 : Heap), a = ⟨#[(.bool false), x4, x2, undef, x4, x4, x6, (D 0), (D 1), (D 2), (D 3), (D 4), (D 5), (D 6), (D 7), (D 8), (D 9), (D 10), undef, undef, undef, undef, undef, undef, undef, undef, undef, undef, undef, undef, undef, undef, undef, undef, undef, undef, undef, undef, undef, undef, undef], []⟩ ∧ At w0 w h_1 ∧ I x2 h_1) (fun a w => m (a.tmps.getD 2 undef) w.heap) ?_ ?_
    · exact ⟨(fun i => ([undef, undef, undef, undef, undef, undef, undef, undef, undef, undef, undef]).getD i undef), (.int .i64 0), h, by kernel_rfl, HA, H0⟩
    · rintro _ w_1 ⟨D, x2, h_1, rfl, HA_1, HI⟩
      have H : betonylaw06_awake_l1 R x4 (fun x2' h' => I x2' h' ∧ m x2' h' < m x2 h_1) x2 h_1 := HB x2 h_1 HI
      clear HB H0 HI
      unfold betonylaw06_awake_l1 at H
      refine wp_seq ?_
      refine wp_seq ?_
      refine lwp_list ?_
      refine ls_move (x := x2) (by kernel_rfl) (by kernel_rfl) ?_
      refine ls_p (d := some 8) (by kernel_rfl) (by kernel_rfl) (p_sLt (by kernel_rfl) (by kernel_rfl) H) (fun x8 H => ?_)
      refine ls_nil ?_
      refine then_normal ?_
      refine fr_eq (b := ⟨#[(.bool false), x4, x2, undef, x4, x4, x6, x2, x8, (D 2), (D 3), (D 4), (D 5), (D 6), (D 7), (D 8), (D 9), (D 10), undef, undef, undef, undef, undef, undef, undef, undef, undef, undef, undef, undef, undef, undef, undef, undef, undef, undef, undef, undef, undef, undef, undef], []⟩) (by kernel_rfl) ?_
      refine wp_if rfl H (fun H => ?_) (fun H => ?_)
      · refine wp_skip ?_
        refine then_normal ?_
        refine fr_eq (b := ⟨#[(.bool false), x4, x2, undef, x4, x4, x6, x2, x8, (D 2), (D 3), (D 4), (D 5), (D 6), (D 7), (D 8), (D 9), (D 10), undef, undef, undef, undef, undef, undef, undef, undef, undef, undef, undef, undef, undef, undef, undef, undef, undef, undef, undef, undef, undef, undef, undef], []⟩) (by kernel_rfl) ?_
        refine wp_seq ?_
        refine wp_block ?_
        refine lwp_list ?_
        refine ls_move (x := x4) (by kernel_rfl) (by kernel_rfl) ?_
        refine ls_move (x := x2) (by kernel_rfl) (by kernel_rfl) ?_
        refine ls_move (x := x2) (by kernel_rfl) (by kernel_rfl) ?_
        refine ls_p (d := some 14) (by kernel_rfl) (by kernel_rfl) (p_add (by kernel_rfl) (by kernel_rfl) H) (fun x14 H => ?_)
        refine ls_p (d := some 15) (by kernel_rfl) (by kernel_rfl) (p_conv Try.underlying3 Try.underlying21 (by kernel_rfl) H) (fun x15 H => ?_)
        refine ls_p (d := some 16) (by kernel_rfl) (by kernel_rfl) (p_lit (pl := [(0, 1), (1, 3)]) Try.zeroValue27 Try.underlying27 ⟨(by kernel_rfl), Try.sizeOf21, (by kernel_rfl), Try.sizeOf25, trivial⟩ (by kernel_rfl) (by kernel_rfl) H) (fun x16 H => ?_)
        refine ls_fr (b := ⟨#[(.bool false), x4, x2, undef, x4, x4, x6, x2, x8, (D 2), (D 3), x4, x2, x2, x14, x15, x16, (D 10), undef, undef, undef, undef, undef, undef, undef, undef, undef, undef, undef, undef, undef, undef, undef, undef, undef, undef, undef, undef, undef, undef, undef], []⟩) (by kernel_rfl) ?_
        refine ls_d (d := some 17) (by kernel_rfl) (by kernel_rfl) HA_1 (d_call (by kernel_rfl) (by kernel_rfl) H) (fun x17 h_2 w_2 H HA_2 => ?_)
        refine ls_nil ?_
        refine block_normal ?_
        refine then_normal ?_
        refine fr_eq (b := ⟨#[(.bool false), x4, x2, undef, x4, x4, x6, x2, x8, (D 2), (D 3), x4, x2, x2, x14, x15, x16, x17, undef, undef, undef, undef, undef, undef, undef, undef, undef, undef, undef, undef, undef, undef, undef, undef, undef, undef, undef, undef, undef, undef, undef], []⟩) (by kernel_rfl) ?_
        refine lwp_list ?_
        refine ls_move (x := x2) (by kernel_rfl) (by kernel_rfl) ?_
        refine ls_p (d := some 10) (by kernel_rfl) (by kernel_rfl) (p_add (by kernel_rfl) (by kernel_rfl) H) (fun x10 H => ?_)
        refine ls_assign (x := x10) (by kernel_rfl) (by kernel_rfl) ?_
        refine ls_nil ?_
        exact ⟨⟨(fun i => ([x2, x8, x2, x10, x4, x2, x2, x14, x15, x16, x17]).getD i undef), x10, h_2, by kernel_rfl, HA_2, H.1⟩, loop_lt HA_2.heap HA_1.heap (by kernel_rfl) (by kernel_rfl) H.2⟩
      · refine wp_exit ?_
        refine then_exit ?_
        refine then_exit ?_
        refine block_exit ?_
        refine then_normal ?_
        refine fr_eq (b := ⟨#[(.bool false), x4, x2, undef, x4, x4, x6, x2, x8, (D 2), (D 3), (D 4), (D 5), (D 6), (D 7), (D 8), (D 9), (D 10), undef, undef, undef, undef, undef, undef, undef, undef, undef, undef, undef, undef, undef, undef, undef, undef, undef, undef, undef, undef, undef, undef, undef], []⟩) (by kernel_rfl) ?_
        refine wp_seq ?_
        refine lwp_list ?_
        refine ls_move (x := x4) (by kernel_rfl) (by kernel_rfl) ?_
        refine ls_p (d := some 19) (by kernel_rfl) (by kernel_rfl) (p_lit (pl := [(0, 1), (1, 1), (2, 1), (3, 1)]) Try.zeroValue23 Try.underlying23 ⟨(by kernel_rfl), Try.sizeOf3, (by kernel_rfl), Try.sizeOf3, (by kernel_rfl), Try.sizeOf3, (by kernel_rfl), Try.sizeOf3, trivial⟩ (by kernel_rfl) (by kernel_rfl) H) (fun x19 H => ?_)
        refine ls_d (d := some 20) (by kernel_rfl) (by kernel_rfl) HA_1 (d_call (by kernel_rfl) (by kernel_rfl) H) (fun x20 h_3 w_3 H HA_3 => ?_)
        refine ls_assign (x := x20) (by kernel_rfl) (by kernel_rfl) ?_
        refine ls_nil ?_
        refine then_normal ?_
        refine fr_eq (b := ⟨#[(.bool false), x4, x2, x20, x4, x4, x6, x2, x8, (D 2), (D 3), (D 4), (D 5), (D 6), (D 7), (D 8), (D 9), (D 10), x4, x19, x20, undef, undef, undef, undef, undef, undef, undef, undef, undef, undef, undef, undef, undef, undef, undef, undef, undef, undef, undef, undef], []⟩) (by kernel_rfl) ?_
        refine wp_seq ?_
        refine lwp_list ?_
        refine ls_move (x := x20) (by kernel_rfl) (by kernel_rfl) ?_
        refine ls_p (d := some 22) (by kernel_rfl) (by kernel_rfl) (p_sEq (by kernel_rfl) (by kernel_rfl) H) (fun x22 H => ?_)
        refine ls_move (x := x22) (by kernel_rfl) (by kernel_rfl) ?_
        refine ls_andh [(), (), (), (), ()] (fun K a w => ∃ (D_1 : Nat → Value) (x28 : Value) (h_4 : Heap), a = ⟨#[(.bool false), x4, x2, x20, x4, x4, x6, x2, x8, (D 2), (D 3), (D 4), (D 5), (D 6), (D 7), (D 8), (D 9), (D 10), x4, x19, x20, x20, x22, x22, (D_1 0), (D_1 1), (D_1 2), (D_1 3), x28, undef, undef, undef, undef, undef, undef, undef, undef, undef, undef, undef, undef], []⟩ ∧ At w0 w h_4 ∧ K x28 h_4) H (fun hb_2 H => ?_) (fun hb_2 H => ?_) ?_
        · refine ls_move (x := x4) (by rw [hb_2]; kernel_rfl) (by kernel_rfl) ?_
          refine ls_d (d := some 25) (by kernel_rfl) (by rw [hb_2]; kernel_rfl) HA_3 (d_call (by kernel_rfl) (by kernel_rfl) H) (fun x25 h_9 w_9 H HA_9 => ?_)
          refine ls_p (d := some 26) (by kernel_rfl) (by rw [hb_2]; kernel_rfl) (p_fld Try.underlying27 rfl Try.isAgg21 rfl (by kernel_rfl) H) (fun x26 H => ?_)
          refine ls_fr (b := ⟨#[(.bool false), x4, x2, x20, x4, x4, x6, x2, x8, (D 2), (D 3), (D 4), (D 5), (D 6), (D 7), (D 8), (D 9), (D 10), x4, x19, x20, x20, x22, x22, x4, x25, x26, undef, undef, undef, undef, undef, undef, undef, undef, undef, undef, undef, undef, undef, undef], []⟩) (by kernel_rfl) ?_
          refine ls_p (d := some 27) (by kernel_rfl) (by rw [hb_2]; kernel_rfl) (p_sEq (by kernel_rfl) (by kernel_rfl) H) (fun x27 H => ?_)
          refine ls_pick_t (x := x27) (by kernel_rfl) (by rw [hb_2]; kernel_rfl) (by kernel_rfl) ?_
          refine ls_nil ?_
          refine then_normal ?_
          exact ⟨(fun i => ([x4, x25, x26, x27]).getD i undef), x27, h_9, by kernel_rfl, HA_9, H⟩
        · refine ls_skip (d := some 24) (by kernel_rfl) (by rw [hb_2]; kernel_rfl) ?_
          refine ls_skip (d := some 25) (by kernel_rfl) (by rw [hb_2]; kernel_rfl) ?_
          refine ls_skip (d := some 26) (by kernel_rfl) (by rw [hb_2]; kernel_rfl) ?_
          refine ls_fr (b := ⟨#[(.bool false), x4, x2, x20, x4, x4, x6, x2, x8, (D 2), (D 3), (D 4), (D 5), (D 6), (D 7), (D 8), (D 9), (D 10), x4, x19, x20, x20, x22, x22, undef, undef, undef, undef, undef, undef, undef, undef, undef, undef, undef, undef, undef, undef, undef, undef, undef], []⟩) (by kernel_rfl) ?_
          refine ls_skip (d := some 27) (by kernel_rfl) (by rw [hb_2]; kernel_rfl) ?_
          refine ls_pick_f (y := (.bool false)) (by kernel_rfl) (by rw [hb_2]; kernel_rfl) (by kernel_rfl) ?_
          refine ls_nil ?_
          refine then_normal ?_
          exact ⟨(fun i => ([undef, undef, undef, undef]).getD i undef), (.bool false), h_3, by kernel_rfl, HA_3, H⟩
        · rintro _ w_4 ⟨D_1, x28, h_4, rfl, HA_4, H⟩
          refine ls_move (x := x28) (by kernel_rfl) (by kernel_rfl) ?_
          refine ls_andh [(), (), (), (), ()] (fun K a w => ∃ (D_2 : Nat → Value) (x34 : Value) (h_5 : Heap), a = ⟨#[(.bool false), x4, x2, x20, x4, x4, x6, x2, x8, (D 2), (D 3), (D 4), (D 5), (D 6), (D 7), (D 8), (D 9), (D 10), x4, x19, x20, x20, x22, x22, (D_1 0), (D_1 1), (D_1 2), (D_1 3), x28, x28, (D_2 0), (D_2 1), (D_2 2), (D_2 3), x34, undef, undef, undef, undef, undef, undef], []⟩ ∧ At w0 w h_5 ∧ K x34 h_5) H (fun hb_1 H => ?_) (fun hb_1 H => ?_) ?_
          · refine ls_move (x := x4) (by rw [hb_1]; kernel_rfl) (by kernel_rfl) ?_
            refine ls_d (d := some 31) (by kernel_rfl) (by rw [hb_1]; kernel_rfl) HA_4 (d_call (by kernel_rfl) (by kernel_rfl) H) (fun x31 h_8 w_8 H HA_8 => ?_)
            refine ls_p (d := some 32) (by kernel_rfl) (by rw [hb_1]; kernel_rfl) (p_fld Try.underlying27 rfl Try.isAgg21 rfl (by kernel_rfl) H) (fun x32 H => ?_)
            refine ls_p (d := some 33) (by kernel_rfl) (by rw [hb_1]; kernel_rfl) (p_sEq (by kernel_rfl) (by kernel_rfl) H) (fun x33 H => ?_)
            refine ls_pick_t (x := x33) (by kernel_rfl) (by rw [hb_1]; kernel_rfl) (by kernel_rfl) ?_
            refine ls_nil ?_
            refine then_normal ?_
            exact ⟨(fun i => ([x4, x31, x32, x33]).getD i undef), x33, h_8, by kernel_rfl, HA_8, H⟩
          · refine ls_skip (d := some 30) (by kernel_rfl) (by rw [hb_1]; kernel_rfl) ?_
            refine ls_skip (d := some 31) (by kernel_rfl) (by rw [hb_1]; kernel_rfl) ?_
            refine ls_skip (d := some 32) (by kernel_rfl) (by rw [hb_1]; kernel_rfl) ?_
            refine ls_skip (d := some 33) (by kernel_rfl) (by rw [hb_1]; kernel_rfl) ?_
            refine ls_pick_f (y := (.bool false)) (by kernel_rfl) (by rw [hb_1]; kernel_rfl) (by kernel_rfl) ?_
            refine ls_nil ?_
            refine then_normal ?_
            exact ⟨(fun i => ([undef, undef, undef, undef]).getD i undef), (.bool false), h_4, by kernel_rfl, HA_4, H⟩
          · rintro _ w_5 ⟨D_2, x34, h_5, rfl, HA_5, H⟩
            refine ls_move (x := x34) (by kernel_rfl) (by kernel_rfl) ?_
            refine ls_andh [(), (), (), (), ()] (fun K a w => ∃ (D_3 : Nat → Value) (x40 : Value) (h_6 : Heap), a = ⟨#[(.bool false), x4, x2, x20, x4, x4, x6, x2, x8, (D 2), (D 3), (D 4), (D 5), (D 6), (D 7), (D 8), (D 9), (D 10), x4, x19, x20, x20, x22, x22, (D_1 0), (D_1 1), (D_1 2), (D_1 3), x28, x28, (D_2 0), (D_2 1), (D_2 2), (D_2 3), x34, x34, (D_3 0), (D_3 1), (D_3 2), (D_3 3), x40], []⟩ ∧ At w0 w h_6 ∧ K x40 h_6) H (fun hb H => ?_) (fun hb H => ?_) ?_
            · refine ls_move (x := x4) (by rw [hb]; kernel_rfl) (by kernel_rfl) ?_
              refine ls_d (d := some 37) (by kernel_rfl) (by rw [hb]; kernel_rfl) HA_5 (d_call (by kernel_rfl) (by kernel_rfl) H) (fun x37 h_7 w_7 H HA_7 => ?_)
              refine ls_p (d := some 38) (by kernel_rfl) (by rw [hb]; kernel_rfl) (p_fld Try.underlying27 rfl Try.isAgg21 rfl (by kernel_rfl) H) (fun x38 H => ?_)
              refine ls_p (d := some 39) (by kernel_rfl) (by rw [hb]; kernel_rfl) (p_sEq (by kernel_rfl) (by kernel_rfl) H) (fun x39 H => ?_)
              refine ls_pick_t (x := x39) (by kernel_rfl) (by rw [hb]; kernel_rfl) (by kernel_rfl) ?_
              refine ls_nil ?_
              refine then_normal ?_
              exact ⟨(fun i => ([x4, x37, x38, x39]).getD i undef), x39, h_7, by kernel_rfl, HA_7, H⟩
            · refine ls_skip (d := some 36) (by kernel_rfl) (by rw [hb]; kernel_rfl) ?_
              refine ls_skip (d := some 37) (by kernel_rfl) (by rw [hb]; kernel_rfl) ?_
              refine ls_skip (d := some 38) (by kernel_rfl) (by rw [hb]; kernel_rfl) ?_
              refine ls_skip (d := some 39) (by kernel_rfl) (by rw [hb]; kernel_rfl) ?_
              refine ls_pick_f (y := (.bool false)) (by kernel_rfl) (by rw [hb]; kernel_rfl) (by kernel_rfl) ?_
              refine ls_nil ?_
              refine then_normal ?_
              exact ⟨(fun i => ([undef, undef, undef, undef]).getD i undef), (.bool false), h_5, by kernel_rfl, HA_5, H⟩
            · rintro _ w_6 ⟨D_3, x40, h_6, rfl, HA_6, H⟩
              refine ls_assign (x := x40) (by kernel_rfl) (by kernel_rfl) ?_
              refine ls_nil ?_
              refine then_normal ?_
              refine fr_eq (b := ⟨#[x40, x4, x2, x20, x4, x4, x6, x2, x8, (D 2), (D 3), (D 4), (D 5), (D 6), (D 7), (D 8), (D 9), (D 10), x4, x19, x20, x20, x22, x22, (D_1 0), (D_1 1), (D_1 2), (D_1 3), x28, x28, (D_2 0), (D_2 1), (D_2 2), (D_2 3), x34, x34, (D_3 0), (D_3 1), (D_3 2), (D_3 3), x40], []⟩) (by kernel_rfl) ?_
              refine wp_ret ?_
              exact end1 (Try.results14) (by kernel_rfl) (by kernel_rfl) HA_6 H _ (.inr rfl)

end Go.Proofs.Ythhpieidlpjbmaa
