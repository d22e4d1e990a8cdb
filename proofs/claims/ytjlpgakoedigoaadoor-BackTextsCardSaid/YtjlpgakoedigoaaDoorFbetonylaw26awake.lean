/- The shallow reading of one function, and that the function does it. Written by a program. -/
import Derived.Test.YtjlpgakoedigoaaDoorFnC
set_option linter.unusedVariables false
namespace Go.Proofs.YtjlpgakoedigoaaDoor
open Go Go.HW

def betonylaw26_awake_l1 (R : Value → Heap → Prop) (x4 : Value) (next : Value → Heap → Prop) (x2 : Value) (h_1 : Heap) : Prop :=
  sLt x2 (.int .i64 3) fun x8 =>
  sIf x8 (sAdd .i64 (.int .i64 97) x2 fun x13 =>
  sConv .i32 x13 fun x14 =>
  sBuild #[.int .i32 0, .int .i64 0, .int .i64 0, .int .i64 0] [(0, 1, x14)] fun x15 =>
  sBuild #[.int .i32 0, .int .i64 0, .int .i64 0, .int .i64 0] [] fun x16 =>
  sSlit h_1 #[.int .i32 0, .int .i64 0, .int .i64 0, .int .i64 0, .int .i32 0, .int .i64 0, .int .i64 0, .int .i64 0] [(0, 4, x15), (4, 4, x16)] 32 2 fun x17 h_2 => 
  back_Back_Push_c x4 x17 h_2 fun x18 h_3 => 
  sAdd .i64 x2 (.int .i64 1) fun x10 =>
  next x10 h_3) (back_Back_Row_c x4 (.int .i64 1) h_1 fun x20 h_4 => 
  back_Back_Len_c x4 h_4 fun x22 h_5 => 
  sEq x22 (.int .i64 2) fun x23 =>
  sAndH x23 h_5 (fun k_3 =>
  back_Back_Lost_c x4 h_5 fun x26 h_9 => 
  sEq x26 (.int .i64 1) fun x27 =>
  k_3 x27 h_9) fun x28 h_6 =>
  sAnd x28 (fun k_2 =>
  sLen x20 fun x31 =>
  sEq x31 (.int .i64 1) fun x32 =>
  k_2 x32) fun x33 =>
  sAnd x33 (fun k_1 =>
  sIxS x20 (.int .i64 0) 4 fun x36 =>
  sOff x36 0 fun x37 =>
  sLd h_6 x37 fun x38 =>
  sEq x38 (.int .i32 98) fun x39 =>
  k_1 x39) fun x40 =>
  sAndH x40 h_6 (fun k =>
  back_Text_c x20 h_6 fun x43 h_8 => 
  sEqlS x43 (.string ⟨#[98]⟩) fun x44 =>
  k x44 h_8) fun x45 h_7 =>
  R x45 h_7)
def betonylaw26_awake_S (h : Heap) (R : Value → Heap → Prop) : Prop :=
  back_New_c (.int .i64 2) h fun x4 h => 
  sEqlNil x4 fun x6 =>
  sIf x6 (R (.bool false) h) (sLoop (S := Value) (fun nxt s h => betonylaw26_awake_l1 R x4 (fun x2' h => nxt x2' h) s h) (.int .i64 0) h)
set_option maxRecDepth 100000 in
theorem betonylaw26_awake_runs {h : Heap} {R : Value → Heap → Prop} (H : betonylaw26_awake_S  h R) : betonylaw26_awake_c  h R := by
  unfold betonylaw26_awake_S at H
  refine runs_of (b := ⟨#[undef, undef, undef, undef, undef, undef, undef, undef, undef, undef, undef, undef, undef, undef, undef, undef, undef, undef, undef, undef, undef, undef, undef, undef, undef, undef, undef, undef, undef, undef, undef, undef, undef, undef, undef, undef, undef, undef, undef, undef, undef, undef, undef, undef, undef, undef], []⟩) Tryd.call7 Tryd.func7 rfl (by kernel_rfl) (fun w0 HA => ?_)
  refine wp_seq ?_
  refine lwp_list ?_
  refine ls_assign (x := (.bool false)) (by kernel_rfl) (by kernel_rfl) ?_
  refine ls_nil ?_
  refine then_normal ?_
  refine fr_eq (b := ⟨#[(.bool false), undef, undef, undef, undef, undef, undef, undef, undef, undef, undef, undef, undef, undef, undef, undef, undef, undef, undef, undef, undef, undef, undef, undef, undef, undef, undef, undef, undef, undef, undef, undef, undef, undef, undef, undef, undef, undef, undef, undef, undef, undef, undef, undef, undef, undef], []⟩) (by kernel_rfl) ?_
  refine wp_seq ?_
  refine lwp_list ?_
  refine ls_d (d := some 4) (by kernel_rfl) (by kernel_rfl) HA (d_call (by kernel_rfl) (by kernel_rfl) H) (fun x4 h w H HA => ?_)
  refine ls_assign (x := x4) (by kernel_rfl) (by kernel_rfl) ?_
  refine ls_nil ?_
  refine then_normal ?_
  refine fr_eq (b := ⟨#[(.bool false), x4, undef, undef, x4, undef, undef, undef, undef, undef, undef, undef, undef, undef, undef, undef, undef, undef, undef, undef, undef, undef, undef, undef, undef, undef, undef, undef, undef, undef, undef, undef, undef, undef, undef, undef, undef, undef, undef, undef, undef, undef, undef, undef, undef, undef], []⟩) (by kernel_rfl) ?_
  refine wp_seq ?_
  refine wp_seq ?_
  refine lwp_list ?_
  refine ls_move (x := x4) (by kernel_rfl) (by kernel_rfl) ?_
  refine ls_p (d := some 6) (by kernel_rfl) (by kernel_rfl) (p_eqlNil Tryd.underlying26 (by kernel_rfl) (by kernel_rfl) H) (fun x6 H => ?_)
  refine ls_nil ?_
  refine then_normal ?_
  refine fr_eq (b := ⟨#[(.bool false), x4, undef, undef, x4, x4, x6, undef, undef, undef, undef, undef, undef, undef, undef, undef, undef, undef, undef, undef, undef, undef, undef, undef, undef, undef, undef, undef, undef, undef, undef, undef, undef, undef, undef, undef, undef, undef, undef, undef, undef, undef, undef, undef, undef, undef], []⟩) (by kernel_rfl) ?_
  refine wp_if rfl H (fun H => ?_) (fun H => ?_)
  · refine wp_seq ?_
    refine lwp_list ?_
    refine ls_assign (x := (.bool false)) (by kernel_rfl) (by kernel_rfl) ?_
    refine ls_nil ?_
    refine then_normal ?_
    refine fr_eq (b := ⟨#[(.bool false), x4, undef, undef, x4, x4, x6, undef, undef, undef, undef, undef, undef, undef, undef, undef, undef, undef, undef, undef, undef, undef, undef, undef, undef, undef, undef, undef, undef, undef, undef, undef, undef, undef, undef, undef, undef, undef, undef, undef, undef, undef, undef, undef, undef, undef], []⟩) (by kernel_rfl) ?_
    refine wp_ret ?_
    refine then_ret ?_
    exact end1 (Tryd.results7) (by kernel_rfl) (by kernel_rfl) HA H _ (.inr rfl)
  · refine wp_skip ?_
    refine then_normal ?_
    refine fr_eq (b := ⟨#[(.bool false), x4, undef, undef, x4, x4, x6, undef, undef, undef, undef, undef, undef, undef, undef, undef, undef, undef, undef, undef, undef, undef, undef, undef, undef, undef, undef, undef, undef, undef, undef, undef, undef, undef, undef, undef, undef, undef, undef, undef, undef, undef, undef, undef, undef, undef], []⟩) (by kernel_rfl) ?_
    refine wp_seq ?_
    refine wp_seq ?_
    refine lwp_list ?_
    refine ls_assign (x := (.int .i64 0)) (by kernel_rfl) (by kernel_rfl) ?_
    refine ls_nil ?_
    refine then_normal ?_
    refine fr_eq (b := ⟨#[(.bool false), x4, (.int .i64 0), undef, x4, x4, x6, undef, undef, undef, undef, undef, undef, undef, undef, undef, undef, undef, undef, undef, undef, undef, undef, undef, undef, undef, undef, undef, undef, undef, undef, undef, undef, undef, undef, undef, undef, undef, undef, undef, undef, undef, undef, undef, undef, undef], []⟩) (by kernel_rfl) ?_
    refine wp_block ?_
    obtain ⟨I, m, H0, HB⟩ := H
    refine wp_loop (fun a w => ∃ (D : Nat → Value) (x2 : Value) (h_1 : Heap), a = ⟨#[(.bool false), x4, x2, undef, x4, x4, x6, (D 0), (D 1), (D 2), (D 3), (D 4), (D 5), (D 6), (D 7), (D 8), (D 9), (D 10), (D 11), undef, undef, undef, undef, undef, undef, undef, undef, undef, undef, undef, undef, undef, undef, undef, undef, undef, undef, undef, undef, undef, undef, undef, undef, undef, undef, undef], []⟩ ∧ At w0 w h_1 ∧ I x2 h_1) (fun a w => m (a.tmps.getD 2 undef) w.heap) ?_ ?_
    · exact ⟨(fun i => ([undef, undef, undef, undef, undef, undef, undef, undef, undef, undef, undef, undef]).getD i undef), (.int .i64 0), h, by kernel_rfl, HA, H0⟩
    · rintro _ w_1 ⟨D, x2, h_1, rfl, HA_1, HI⟩
      have H : betonylaw26_awake_l1 R x4 (fun x2' h' => I x2' h' ∧ m x2' h' < m x2 h_1) x2 h_1 := HB x2 h_1 HI
      clear HB H0 HI
      unfold betonylaw26_awake_l1 at H
      refine wp_seq ?_
      refine wp_seq ?_
      refine lwp_list ?_
      refine ls_move (x := x2) (by kernel_rfl) (by kernel_rfl) ?_
      refine ls_p (d := some 8) (by kernel_rfl) (by kernel_rfl) (p_sLt (by kernel_rfl) (by kernel_rfl) H) (fun x8 H => ?_)
      refine ls_nil ?_
      refine then_normal ?_
      refine fr_eq (b := ⟨#[(.bool false), x4, x2, undef, x4, x4, x6, x2, x8, (D 2), (D 3), (D 4), (D 5), (D 6), (D 7), (D 8), (D 9), (D 10), (D 11), undef, undef, undef, undef, undef, undef, undef, undef, undef, undef, undef, undef, undef, undef, undef, undef, undef, undef, undef, undef, undef, undef, undef, undef, undef, undef, undef], []⟩) (by kernel_rfl) ?_
      refine wp_if rfl H (fun H => ?_) (fun H => ?_)
      · refine wp_skip ?_
        refine then_normal ?_
        refine fr_eq (b := ⟨#[(.bool false), x4, x2, undef, x4, x4, x6, x2, x8, (D 2), (D 3), (D 4), (D 5), (D 6), (D 7), (D 8), (D 9), (D 10), (D 11), undef, undef, undef, undef, undef, undef, undef, undef, undef, undef, undef, undef, undef, undef, undef, undef, undef, undef, undef, undef, undef, undef, undef, undef, undef, undef, undef], []⟩) (by kernel_rfl) ?_
        refine wp_seq ?_
        refine wp_block ?_
        refine lwp_list ?_
        refine ls_move (x := x4) (by kernel_rfl) (by kernel_rfl) ?_
        refine ls_move (x := x2) (by kernel_rfl) (by kernel_rfl) ?_
        refine ls_p (d := some 13) (by kernel_rfl) (by kernel_rfl) (p_add (by kernel_rfl) (by kernel_rfl) H) (fun x13 H => ?_)
        refine ls_p (d := some 14) (by kernel_rfl) (by kernel_rfl) (p_conv Tryd.underlying3 Tryd.underlying21 (by kernel_rfl) H) (fun x14 H => ?_)
        refine ls_p (d := some 15) (by kernel_rfl) (by kernel_rfl) (p_lit (pl := [(0, 1), (1, 3)]) Tryd.zeroValue32 Tryd.underlying32 ⟨(by kernel_rfl), Tryd.sizeOf21, (by kernel_rfl), Tryd.sizeOf30, trivial⟩ (by kernel_rfl) (by kernel_rfl) H) (fun x15 H => ?_)
        refine ls_p (d := some 16) (by kernel_rfl) (by kernel_rfl) (p_lit (pl := [(0, 1), (1, 3)]) Tryd.zeroValue32 Tryd.underlying32 ⟨(by kernel_rfl), Tryd.sizeOf21, (by kernel_rfl), Tryd.sizeOf30, trivial⟩ (by kernel_rfl) (by kernel_rfl) H) (fun x16 H => ?_)
        refine ls_fr (b := ⟨#[(.bool false), x4, x2, undef, x4, x4, x6, x2, x8, (D 2), (D 3), x4, x2, x13, x14, x15, x16, (D 10), (D 11), undef, undef, undef, undef, undef, undef, undef, undef, undef, undef, undef, undef, undef, undef, undef, undef, undef, undef, undef, undef, undef, undef, undef, undef, undef, undef, undef], []⟩) (by kernel_rfl) ?_
        refine ls_d (d := some 17) (by kernel_rfl) (by kernel_rfl) HA_1 (d_slit (zc := #[.int .i32 0, .int .i64 0, .int .i64 0, .int .i64 0]) Tryd.underlying22 Tryd.sizeOf32 (by decide) (.inr ⟨by decide, _, Tryd.zeroValue32, (by kernel_rfl)⟩) (by kernel_rfl) (by kernel_rfl) H) (fun x17 h_2 w_2 H HA_2 => ?_)
        refine ls_d (d := some 18) (by kernel_rfl) (by kernel_rfl) HA_2 (d_call (by kernel_rfl) (by kernel_rfl) H) (fun x18 h_3 w_3 H HA_3 => ?_)
        refine ls_nil ?_
        refine block_normal ?_
        refine then_normal ?_
        refine fr_eq (b := ⟨#[(.bool false), x4, x2, undef, x4, x4, x6, x2, x8, (D 2), (D 3), x4, x2, x13, x14, x15, x16, x17, x18, undef, undef, undef, undef, undef, undef, undef, undef, undef, undef, undef, undef, undef, undef, undef, undef, undef, undef, undef, undef, undef, undef, undef, undef, undef, undef, undef], []⟩) (by kernel_rfl) ?_
        refine lwp_list ?_
        refine ls_move (x := x2) (by kernel_rfl) (by kernel_rfl) ?_
        refine ls_p (d := some 10) (by kernel_rfl) (by kernel_rfl) (p_add (by kernel_rfl) (by kernel_rfl) H) (fun x10 H => ?_)
        refine ls_assign (x := x10) (by kernel_rfl) (by kernel_rfl) ?_
        refine ls_nil ?_
        exact ⟨⟨(fun i => ([x2, x8, x2, x10, x4, x2, x13, x14, x15, x16, x17, x18]).getD i undef), x10, h_3, by kernel_rfl, HA_3, H.1⟩, loop_lt HA_3.heap HA_1.heap (by kernel_rfl) (by kernel_rfl) H.2⟩
      · refine wp_exit ?_
        refine then_exit ?_
        refine then_exit ?_
        refine block_exit ?_
        refine then_normal ?_
        refine fr_eq (b := ⟨#[(.bool false), x4, x2, undef, x4, x4, x6, x2, x8, (D 2), (D 3), (D 4), (D 5), (D 6), (D 7), (D 8), (D 9), (D 10), (D 11), undef, undef, undef, undef, undef, undef, undef, undef, undef, undef, undef, undef, undef, undef, undef, undef, undef, undef, undef, undef, undef, undef, undef, undef, undef, undef, undef], []⟩) (by kernel_rfl) ?_
        refine wp_seq ?_
        refine lwp_list ?_
        refine ls_move (x := x4) (by kernel_rfl) (by kernel_rfl) ?_
        refine ls_d (d := some 20) (by kernel_rfl) (by kernel_rfl) HA_1 (d_call (by kernel_rfl) (by kernel_rfl) H) (fun x20 h_4 w_4 H HA_4 => ?_)
        refine ls_assign (x := x20) (by kernel_rfl) (by kernel_rfl) ?_
        refine ls_nil ?_
        refine then_normal ?_
        refine fr_eq (b := ⟨#[(.bool false), x4, x2, x20, x4, x4, x6, x2, x8, (D 2), (D 3), (D 4), (D 5), (D 6), (D 7), (D 8), (D 9), (D 10), (D 11), x4, x20, undef, undef, undef, undef, undef, undef, undef, undef, undef, undef, undef, undef, undef, undef, undef, undef, undef, undef, undef, undef, undef, undef, undef, undef, undef], []⟩) (by kernel_rfl) ?_
        refine wp_seq ?_
        refine lwp_list ?_
        refine ls_move (x := x4) (by kernel_rfl) (by kernel_rfl) ?_
        refine ls_d (d := some 22) (by kernel_rfl) (by kernel_rfl) HA_4 (d_call (by kernel_rfl) (by kernel_rfl) H) (fun x22 h_5 w_5 H HA_5 => ?_)
        refine ls_p (d := some 23) (by kernel_rfl) (by kernel_rfl) (p_sEq (by kernel_rfl) (by kernel_rfl) H) (fun x23 H => ?_)
        refine ls_move (x := x23) (by kernel_rfl) (by kernel_rfl) ?_
        refine ls_andh [(), (), (), ()] (fun K a w => ∃ (D_1 : Nat → Value) (x28 : Value) (h_6 : Heap), a = ⟨#[(.bool false), x4, x2, x20, x4, x4, x6, x2, x8, (D 2), (D 3), (D 4), (D 5), (D 6), (D 7), (D 8), (D 9), (D 10), (D 11), x4, x20, x4, x22, x23, x23, (D_1 0), (D_1 1), (D_1 2), x28, undef, undef, undef, undef, undef, undef, undef, undef, undef, undef, undef, undef, undef, undef, undef, undef, undef], []⟩ ∧ At w0 w h_6 ∧ K x28 h_6) H (fun hb_3 H => ?_) (fun hb_3 H => ?_) ?_
        · refine ls_move (x := x4) (by rw [hb_3]; kernel_rfl) (by kernel_rfl) ?_
          refine ls_d (d := some 26) (by kernel_rfl) (by rw [hb_3]; kernel_rfl) HA_5 (d_call (by kernel_rfl) (by kernel_rfl) H) (fun x26 h_9 w_11 H HA_11 => ?_)
          refine ls_fr (b := ⟨#[(.bool false), x4, x2, x20, x4, x4, x6, x2, x8, (D 2), (D 3), (D 4), (D 5), (D 6), (D 7), (D 8), (D 9), (D 10), (D 11), x4, x20, x4, x22, x23, x23, x4, x26, undef, undef, undef, undef, undef, undef, undef, undef, undef, undef, undef, undef, undef, undef, undef, undef, undef, undef, undef], []⟩) (by kernel_rfl) ?_
          refine ls_p (d := some 27) (by kernel_rfl) (by rw [hb_3]; kernel_rfl) (p_sEq (by kernel_rfl) (by kernel_rfl) H) (fun x27 H => ?_)
          refine ls_pick_t (x := x27) (by kernel_rfl) (by rw [hb_3]; kernel_rfl) (by kernel_rfl) ?_
          refine ls_nil ?_
          refine then_normal ?_
          exact ⟨(fun i => ([x4, x26, x27]).getD i undef), x27, h_9, by kernel_rfl, HA_11, H⟩
        · refine ls_skip (d := some 25) (by kernel_rfl) (by rw [hb_3]; kernel_rfl) ?_
          refine ls_skip (d := some 26) (by kernel_rfl) (by rw [hb_3]; kernel_rfl) ?_
          refine ls_fr (b := ⟨#[(.bool false), x4, x2, x20, x4, x4, x6, x2, x8, (D 2), (D 3), (D 4), (D 5), (D 6), (D 7), (D 8), (D 9), (D 10), (D 11), x4, x20, x4, x22, x23, x23, undef, undef, undef, undef, undef, undef, undef, undef, undef, undef, undef, undef, undef, undef, undef, undef, undef, undef, undef, undef, undef], []⟩) (by kernel_rfl) ?_
          refine ls_skip (d := some 27) (by kernel_rfl) (by rw [hb_3]; kernel_rfl) ?_
          refine ls_pick_f (y := (.bool false)) (by kernel_rfl) (by rw [hb_3]; kernel_rfl) (by kernel_rfl) ?_
          refine ls_nil ?_
          refine then_normal ?_
          exact ⟨(fun i => ([undef, undef, undef]).getD i undef), (.bool false), h_5, by kernel_rfl, HA_5, H⟩
        · rintro _ w_6 ⟨D_1, x28, h_6, rfl, HA_6, H⟩
          refine ls_move (x := x28) (by kernel_rfl) (by kernel_rfl) ?_
          refine ls_and [(), (), (), ()] (fun K a w => ∃ (D_2 : Nat → Value) (x33 : Value), a = ⟨#[(.bool false), x4, x2, x20, x4, x4, x6, x2, x8, (D 2), (D 3), (D 4), (D 5), (D 6), (D 7), (D 8), (D 9), (D 10), (D 11), x4, x20, x4, x22, x23, x23, (D_1 0), (D_1 1), (D_1 2), x28, x28, (D_2 0), (D_2 1), (D_2 2), x33, undef, undef, undef, undef, undef, undef, undef, undef, undef, undef, undef, undef], []⟩ ∧ At w0 w h_6 ∧ K x33) H (fun hb_2 H => ?_) (fun hb_2 H => ?_) ?_
          · refine ls_move (x := x20) (by rw [hb_2]; kernel_rfl) (by kernel_rfl) ?_
            refine ls_p (d := some 31) (by kernel_rfl) (by rw [hb_2]; kernel_rfl) (p_len Tryd.underlying22 (by kernel_rfl) H) (fun x31 H => ?_)
            refine ls_p (d := some 32) (by kernel_rfl) (by rw [hb_2]; kernel_rfl) (p_sEq (by kernel_rfl) (by kernel_rfl) H) (fun x32 H => ?_)
            refine ls_pick_t (x := x32) (by kernel_rfl) (by rw [hb_2]; kernel_rfl) (by kernel_rfl) ?_
            refine ls_nil ?_
            refine then_normal ?_
            exact ⟨(fun i => ([x20, x31, x32]).getD i undef), x32, by kernel_rfl, HA_6, H⟩
          · refine ls_skip (d := some 30) (by kernel_rfl) (by rw [hb_2]; kernel_rfl) ?_
            refine ls_skip (d := some 31) (by kernel_rfl) (by rw [hb_2]; kernel_rfl) ?_
            refine ls_skip (d := some 32) (by kernel_rfl) (by rw [hb_2]; kernel_rfl) ?_
            refine ls_pick_f (y := (.bool false)) (by kernel_rfl) (by rw [hb_2]; kernel_rfl) (by kernel_rfl) ?_
            refine ls_nil ?_
            refine then_normal ?_
            exact ⟨(fun i => ([undef, undef, undef]).getD i undef), (.bool false), by kernel_rfl, HA_6, H⟩
          · rintro _ w_7 ⟨D_2, x33, rfl, HA_7, H⟩
            refine ls_move (x := x33) (by kernel_rfl) (by kernel_rfl) ?_
            refine ls_and [(), (), (), (), (), ()] (fun K a w => ∃ (D_3 : Nat → Value) (x40 : Value), a = ⟨#[(.bool false), x4, x2, x20, x4, x4, x6, x2, x8, (D 2), (D 3), (D 4), (D 5), (D 6), (D 7), (D 8), (D 9), (D 10), (D 11), x4, x20, x4, x22, x23, x23, (D_1 0), (D_1 1), (D_1 2), x28, x28, (D_2 0), (D_2 1), (D_2 2), x33, x33, (D_3 0), (D_3 1), (D_3 2), (D_3 3), (D_3 4), x40, undef, undef, undef, undef, undef], []⟩ ∧ At w0 w h_6 ∧ K x40) H (fun hb_1 H => ?_) (fun hb_1 H => ?_) ?_
            · refine ls_move (x := x20) (by rw [hb_1]; kernel_rfl) (by kernel_rfl) ?_
              refine ls_p (d := some 36) (by kernel_rfl) (by rw [hb_1]; kernel_rfl) (p_ixs Tryd.underlying22 Tryd.sizeOf32 (by kernel_rfl) (by kernel_rfl) H) (fun x36 H => ?_)
              refine ls_p (d := some 37) (by kernel_rfl) (by rw [hb_1]; kernel_rfl) (p_off Tryd.underlying32 rfl (fun w => ⟨_, Tryd.sizeOf21 w⟩) rfl (by kernel_rfl) H) (fun x37 H => ?_)
              refine ls_y (d := some 38) (by kernel_rfl) (by rw [hb_1]; kernel_rfl) HA_7 (y_ld Tryd.isAgg21 (by kernel_rfl) H) (fun x38 H => ?_)
              refine ls_p (d := some 39) (by kernel_rfl) (by rw [hb_1]; kernel_rfl) (p_sEq (by kernel_rfl) (by kernel_rfl) H) (fun x39 H => ?_)
              refine ls_fr (b := ⟨#[(.bool false), x4, x2, x20, x4, x4, x6, x2, x8, (D 2), (D 3), (D 4), (D 5), (D 6), (D 7), (D 8), (D 9), (D 10), (D 11), x4, x20, x4, x22, x23, x23, (D_1 0), (D_1 1), (D_1 2), x28, x28, (D_2 0), (D_2 1), (D_2 2), x33, x33, x20, x36, x37, x38, x39, undef, undef, undef, undef, undef, undef], []⟩) (by kernel_rfl) ?_
              refine ls_pick_t (x := x39) (by kernel_rfl) (by rw [hb_1]; kernel_rfl) (by kernel_rfl) ?_
              refine ls_nil ?_
              refine then_normal ?_
              exact ⟨(fun i => ([x20, x36, x37, x38, x39]).getD i undef), x39, by kernel_rfl, HA_7, H⟩
            · refine ls_skip (d := some 35) (by kernel_rfl) (by rw [hb_1]; kernel_rfl) ?_
              refine ls_skip (d := some 36) (by kernel_rfl) (by rw [hb_1]; kernel_rfl) ?_
              refine ls_skip (d := some 37) (by kernel_rfl) (by rw [hb_1]; kernel_rfl) ?_
              refine ls_skip (d := some 38) (by kernel_rfl) (by rw [hb_1]; kernel_rfl) ?_
              refine ls_skip (d := some 39) (by kernel_rfl) (by rw [hb_1]; kernel_rfl) ?_
              refine ls_fr (b := ⟨#[(.bool false), x4, x2, x20, x4, x4, x6, x2, x8, (D 2), (D 3), (D 4), (D 5), (D 6), (D 7), (D 8), (D 9), (D 10), (D 11), x4, x20, x4, x22, x23, x23, (D_1 0), (D_1 1), (D_1 2), x28, x28, (D_2 0), (D_2 1), (D_2 2), x33, x33, undef, undef, undef, undef, undef, undef, undef, undef, undef, undef, undef], []⟩) (by kernel_rfl) ?_
              refine ls_pick_f (y := (.bool false)) (by kernel_rfl) (by rw [hb_1]; kernel_rfl) (by kernel_rfl) ?_
              refine ls_nil ?_
              refine then_normal ?_
              exact ⟨(fun i => ([undef, undef, undef, undef, undef]).getD i undef), (.bool false), by kernel_rfl, HA_7, H⟩
            · rintro _ w_8 ⟨D_3, x40, rfl, HA_8, H⟩
              refine ls_move (x := x40) (by kernel_rfl) (by kernel_rfl) ?_
              refine ls_andh [(), (), (), ()] (fun K a w => ∃ (D_4 : Nat → Value) (x45 : Value) (h_7 : Heap), a = ⟨#[(.bool false), x4, x2, x20, x4, x4, x6, x2, x8, (D 2), (D 3), (D 4), (D 5), (D 6), (D 7), (D 8), (D 9), (D 10), (D 11), x4, x20, x4, x22, x23, x23, (D_1 0), (D_1 1), (D_1 2), x28, x28, (D_2 0), (D_2 1), (D_2 2), x33, x33, (D_3 0), (D_3 1), (D_3 2), (D_3 3), (D_3 4), x40, x40, (D_4 0), (D_4 1), (D_4 2), x45], []⟩ ∧ At w0 w h_7 ∧ K x45 h_7) H (fun hb H => ?_) (fun hb H => ?_) ?_
              · refine ls_move (x := x20) (by rw [hb]; kernel_rfl) (by kernel_rfl) ?_
                refine ls_d (d := some 43) (by kernel_rfl) (by rw [hb]; kernel_rfl) HA_8 (d_call (by kernel_rfl) (by kernel_rfl) H) (fun x43 h_8 w_10 H HA_10 => ?_)
                refine ls_p (d := some 44) (by kernel_rfl) (by rw [hb]; kernel_rfl) (p_sEqlS (by kernel_rfl) (by kernel_rfl) H) (fun x44 H => ?_)
                refine ls_pick_t (x := x44) (by kernel_rfl) (by rw [hb]; kernel_rfl) (by kernel_rfl) ?_
                refine ls_nil ?_
                refine then_normal ?_
                exact ⟨(fun i => ([x20, x43, x44]).getD i undef), x44, h_8, by kernel_rfl, HA_10, H⟩
              · refine ls_skip (d := some 42) (by kernel_rfl) (by rw [hb]; kernel_rfl) ?_
                refine ls_skip (d := some 43) (by kernel_rfl) (by rw [hb]; kernel_rfl) ?_
                refine ls_skip (d := some 44) (by kernel_rfl) (by rw [hb]; kernel_rfl) ?_
                refine ls_pick_f (y := (.bool false)) (by kernel_rfl) (by rw [hb]; kernel_rfl) (by kernel_rfl) ?_
                refine ls_nil ?_
                refine then_normal ?_
                exact ⟨(fun i => ([undef, undef, undef]).getD i undef), (.bool false), h_6, by kernel_rfl, HA_8, H⟩
              · rintro _ w_9 ⟨D_4, x45, h_7, rfl, HA_9, H⟩
                refine ls_assign (x := x45) (by kernel_rfl) (by kernel_rfl) ?_
                refine ls_nil ?_
                refine then_normal ?_
                refine fr_eq (b := ⟨#[x45, x4, x2, x20, x4, x4, x6, x2, x8, (D 2), (D 3), (D 4), (D 5), (D 6), (D 7), (D 8), (D 9), (D 10), (D 11), x4, x20, x4, x22, x23, x23, (D_1 0), (D_1 1), (D_1 2), x28, x28, (D_2 0), (D_2 1), (D_2 2), x33, x33, (D_3 0), (D_3 1), (D_3 2), (D_3 3), (D_3 4), x40, x40, (D_4 0), (D_4 1), (D_4 2), x45], []⟩) (by kernel_rfl) ?_
                refine wp_ret ?_
                exact end1 (Tryd.results7) (by kernel_rfl) (by kernel_rfl) HA_9 H _ (.inr rfl)

end Go.Proofs.YtjlpgakoedigoaaDoor
