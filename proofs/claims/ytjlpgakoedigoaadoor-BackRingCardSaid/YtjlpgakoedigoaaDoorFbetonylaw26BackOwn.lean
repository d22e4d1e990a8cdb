/- The shallow reading of one function, and that the function does it. Written by a program. -/
import Derived.Test.YtjlpgakoedigoaaDoorFnC
set_option linter.unusedVariables false
namespace Go.Proofs.YtjlpgakoedigoaaDoor
open Go Go.HW

def betonylaw26_BackOwn_l2 (R : Value → Heap → Prop) (x0 x12 x32 : Value) (next : Value → Heap → Prop) (x7 : Value) (h_8 : Heap) : Prop :=
  sLen x32 fun x35 =>
  sLt x7 x35 fun x36 =>
  sIf x36 (sIxS x32 x7 4 fun x41 =>
  sOff x41 0 fun x42 =>
  sSt h_8 x42 (.int .i32 8) fun h_9 => 
  sAdd .i64 x7 (.int .i64 1) fun x38 =>
  next x38 h_9) (back_Back_Row_c x12 (.int .i64 0) h_8 fun x44 h_10 => 
  betonyref26_Cut_c x0 h_10 fun x46 h_11 => 
  betonyref06_Same_c x44 x46 h_11 fun x47 h_12 => 
  sAndH x47 h_12 (fun k_1 =>
  back_Back_Len_c x12 h_12 fun x50 h_16 => 
  sEq x50 (.int .i64 1) fun x51 =>
  k_1 x51 h_16) fun x52 h_13 =>
  sAndH x52 h_13 (fun k =>
  betonylaw26_awake_c  h_13 fun x54 h_15 => 
  k x54 h_15) fun x55 h_14 =>
  R x55 h_14)
def betonylaw26_BackOwn_l1 (R : Value → Heap → Prop) (x0 x12 x17 : Value) (next : Value → Heap → Prop) (x5 : Value) (h_5 : Heap) : Prop :=
  sLen x17 fun x23 =>
  sLt x5 x23 fun x24 =>
  sIf x24 (sIxS x17 x5 4 fun x29 =>
  sOff x29 0 fun x30 =>
  sSt h_5 x30 (.int .i32 7) fun h_6 => 
  sAdd .i64 x5 (.int .i64 1) fun x26 =>
  next x26 h_6) (back_Back_Row_c x12 (.int .i64 0) h_5 fun x32 h_7 => 
  sLoop (S := Value) (fun nxt s h => betonylaw26_BackOwn_l2 R x0 x12 x32 (fun x7' h => nxt x7' h) s h) (.int .i64 0) h_7)
def betonylaw26_BackOwn_S (x0 : Value) (h : Heap) (R : Value → Heap → Prop) : Prop :=
  sLen x0 fun x9 =>
  sGt x9 (.int .i64 40) fun x10 =>
  sIf x10 (betonylaw26_awake_c  h fun x11 h => 
  R x11 h) (back_New_c (.int .i64 5) h fun x12 h_1 => 
  sEqlNil x12 fun x14 =>
  sIf x14 (R (.bool false) h_1) (sSlit h_1 #[] [] 32 0 fun x15 h_2 => 
  sApp h_2 x15 x0 #[.int .i32 0, .int .i64 0, .int .i64 0, .int .i64 0] 32 32 fun x17 h_3 => 
  back_Back_Push_c x12 x17 h_3 fun x20 h_4 => 
  sLoop (S := Value) (fun nxt s h => betonylaw26_BackOwn_l1 R x0 x12 x17 (fun x5' h => nxt x5' h) s h) (.int .i64 0) h_4))
set_option maxRecDepth 100000 in
theorem betonylaw26_BackOwn_runs {x0 : Value} {h : Heap} {R : Value → Heap → Prop} (H : betonylaw26_BackOwn_S x0 h R) : betonylaw26_BackOwn_c x0 h R := by
  unfold betonylaw26_BackOwn_S at H
  refine runs_of (b := ⟨#[x0, undef, undef, undef, undef, undef, undef, undef, undef, undef, undef, undef, undef, undef, undef, undef, undef, undef, undef, undef, undef, undef, undef, undef, undef, undef, undef, undef, undef, undef, undef, undef, undef, undef, undef, undef, undef, undef, undef, undef, undef, undef, undef, undef, undef, undef, undef, undef, undef, undef, undef, undef, undef, undef, undef, undef], []⟩) Tryd.call5 Tryd.func5 rfl (by kernel_rfl) (fun w0 HA => ?_)
  refine wp_seq ?_
  refine lwp_list ?_
  refine ls_assign (x := (.bool false)) (by kernel_rfl) (by kernel_rfl) ?_
  refine ls_nil ?_
  refine then_normal ?_
  refine fr_eq (b := ⟨#[x0, undef, (.bool false), undef, undef, undef, undef, undef, undef, undef, undef, undef, undef, undef, undef, undef, undef, undef, undef, undef, undef, undef, undef, undef, undef, undef, undef, undef, undef, undef, undef, undef, undef, undef, undef, undef, undef, undef, undef, undef, undef, undef, undef, undef, undef, undef, undef, undef, undef, undef, undef, undef, undef, undef, undef, undef], []⟩) (by kernel_rfl) ?_
  refine wp_seq ?_
  refine wp_seq ?_
  refine lwp_list ?_
  refine ls_move (x := x0) (by kernel_rfl) (by kernel_rfl) ?_
  refine ls_p (d := some 9) (by kernel_rfl) (by kernel_rfl) (p_len Tryd.underlying22 (by kernel_rfl) H) (fun x9 H => ?_)
  refine ls_p (d := some 10) (by kernel_rfl) (by kernel_rfl) (p_sGt (by kernel_rfl) (by kernel_rfl) H) (fun x10 H => ?_)
  refine ls_nil ?_
  refine then_normal ?_
  refine fr_eq (b := ⟨#[x0, undef, (.bool false), undef, undef, undef, undef, undef, x0, x9, x10, undef, undef, undef, undef, undef, undef, undef, undef, undef, undef, undef, undef, undef, undef, undef, undef, undef, undef, undef, undef, undef, undef, undef, undef, undef, undef, undef, undef, undef, undef, undef, undef, undef, undef, undef, undef, undef, undef, undef, undef, undef, undef, undef, undef, undef], []⟩) (by kernel_rfl) ?_
  refine wp_if rfl H (fun H => ?_) (fun H => ?_)
  · refine wp_seq ?_
    refine lwp_list ?_
    refine ls_d (d := some 11) (by kernel_rfl) (by kernel_rfl) HA (d_call (by kernel_rfl) (by kernel_rfl) H) (fun x11 h w H HA => ?_)
    refine ls_assign (x := x11) (by kernel_rfl) (by kernel_rfl) ?_
    refine ls_nil ?_
    refine then_normal ?_
    refine fr_eq (b := ⟨#[x0, undef, x11, undef, undef, undef, undef, undef, x0, x9, x10, x11, undef, undef, undef, undef, undef, undef, undef, undef, undef, undef, undef, undef, undef, undef, undef, undef, undef, undef, undef, undef, undef, undef, undef, undef, undef, undef, undef, undef, undef, undef, undef, undef, undef, undef, undef, undef, undef, undef, undef, undef, undef, undef, undef, undef], []⟩) (by kernel_rfl) ?_
    refine wp_ret ?_
    refine then_ret ?_
    exact end1 (Tryd.results5) (by kernel_rfl) (by kernel_rfl) HA H _ (.inr rfl)
  · refine wp_skip ?_
    refine then_normal ?_
    refine fr_eq (b := ⟨#[x0, undef, (.bool false), undef, undef, undef, undef, undef, x0, x9, x10, undef, undef, undef, undef, undef, undef, undef, undef, undef, undef, undef, undef, undef, undef, undef, undef, undef, undef, undef, undef, undef, undef, undef, undef, undef, undef, undef, undef, undef, undef, undef, undef, undef, undef, undef, undef, undef, undef, undef, undef, undef, undef, undef, undef, undef], []⟩) (by kernel_rfl) ?_
    refine wp_seq ?_
    refine lwp_list ?_
    refine ls_d (d := some 12) (by kernel_rfl) (by kernel_rfl) HA (d_call (by kernel_rfl) (by kernel_rfl) H) (fun x12 h_1 w_1 H HA_1 => ?_)
    refine ls_assign (x := x12) (by kernel_rfl) (by kernel_rfl) ?_
    refine ls_nil ?_
    refine then_normal ?_
    refine fr_eq (b := ⟨#[x0, undef, (.bool false), x12, undef, undef, undef, undef, x0, x9, x10, undef, x12, undef, undef, undef, undef, undef, undef, undef, undef, undef, undef, undef, undef, undef, undef, undef, undef, undef, undef, undef, undef, undef, undef, undef, undef, undef, undef, undef, undef, undef, undef, undef, undef, undef, undef, undef, undef, undef, undef, undef, undef, undef, undef, undef], []⟩) (by kernel_rfl) ?_
    refine wp_seq ?_
    refine wp_seq ?_
    refine lwp_list ?_
    refine ls_move (x := x12) (by kernel_rfl) (by kernel_rfl) ?_
    refine ls_p (d := some 14) (by kernel_rfl) (by kernel_rfl) (p_eqlNil Tryd.underlying26 (by kernel_rfl) (by kernel_rfl) H) (fun x14 H => ?_)
    refine ls_nil ?_
    refine then_normal ?_
    refine fr_eq (b := ⟨#[x0, undef, (.bool false), x12, undef, undef, undef, undef, x0, x9, x10, undef, x12, x12, x14, undef, undef, undef, undef, undef, undef, undef, undef, undef, undef, undef, undef, undef, undef, undef, undef, undef, undef, undef, undef, undef, undef, undef, undef, undef, undef, undef, undef, undef, undef, undef, undef, undef, undef, undef, undef, undef, undef, undef, undef, undef], []⟩) (by kernel_rfl) ?_
    refine wp_if rfl H (fun H => ?_) (fun H => ?_)
    · refine wp_seq ?_
      refine lwp_list ?_
      refine ls_assign (x := (.bool false)) (by kernel_rfl) (by kernel_rfl) ?_
      refine ls_nil ?_
      refine then_normal ?_
      refine fr_eq (b := ⟨#[x0, undef, (.bool false), x12, undef, undef, undef, undef, x0, x9, x10, undef, x12, x12, x14, undef, undef, undef, undef, undef, undef, undef, undef, undef, undef, undef, undef, undef, undef, undef, undef, undef, undef, undef, undef, undef, undef, undef, undef, undef, undef, undef, undef, undef, undef, undef, undef, undef, undef, undef, undef, undef, undef, undef, undef, undef], []⟩) (by kernel_rfl) ?_
      refine wp_ret ?_
      refine then_ret ?_
      exact end1 (Tryd.results5) (by kernel_rfl) (by kernel_rfl) HA_1 H _ (.inr rfl)
    · refine wp_skip ?_
      refine then_normal ?_
      refine fr_eq (b := ⟨#[x0, undef, (.bool false), x12, undef, undef, undef, undef, x0, x9, x10, undef, x12, x12, x14, undef, undef, undef, undef, undef, undef, undef, undef, undef, undef, undef, undef, undef, undef, undef, undef, undef, undef, undef, undef, undef, undef, undef, undef, undef, undef, undef, undef, undef, undef, undef, undef, undef, undef, undef, undef, undef, undef, undef, undef, undef], []⟩) (by kernel_rfl) ?_
      refine wp_seq ?_
      refine lwp_list ?_
      refine ls_d (d := some 15) (by kernel_rfl) (by kernel_rfl) HA_1 (d_slit (zc := #[]) Tryd.underlying22 Tryd.sizeOf32 (by decide) (.inl ⟨(by kernel_rfl), (by kernel_rfl)⟩) (by kernel_rfl) (by kernel_rfl) H) (fun x15 h_2 w_2 H HA_2 => ?_)
      refine ls_move (x := x0) (by kernel_rfl) (by kernel_rfl) ?_
      refine ls_d (d := some 17) (by kernel_rfl) (by kernel_rfl) HA_2 (d_app (z := #[.int .i32 0, .int .i64 0, .int .i64 0, .int .i64 0]) Tryd.underlying22 Tryd.underlying22 (.inl ⟨_, rfl⟩) Tryd.typeInfo32 (by kernel_rfl) Tryd.sizeOf32 Tryd.zeroValue32 (by kernel_rfl) (by kernel_rfl) (by kernel_rfl) H) (fun x17 h_3 w_3 H HA_3 => ?_)
      refine ls_assign (x := x17) (by kernel_rfl) (by kernel_rfl) ?_
      refine ls_nil ?_
      refine then_normal ?_
      refine fr_eq (b := ⟨#[x0, undef, (.bool false), x12, x17, undef, undef, undef, x0, x9, x10, undef, x12, x12, x14, x15, x0, x17, undef, undef, undef, undef, undef, undef, undef, undef, undef, undef, undef, undef, undef, undef, undef, undef, undef, undef, undef, undef, undef, undef, undef, undef, undef, undef, undef, undef, undef, undef, undef, undef, undef, undef, undef, undef, undef, undef], []⟩) (by kernel_rfl) ?_
      refine wp_seq ?_
      refine lwp_list ?_
      refine ls_move (x := x12) (by kernel_rfl) (by kernel_rfl) ?_
      refine ls_move (x := x17) (by kernel_rfl) (by kernel_rfl) ?_
      refine ls_d (d := some 20) (by kernel_rfl) (by kernel_rfl) HA_3 (d_call (by kernel_rfl) (by kernel_rfl) H) (fun x20 h_4 w_4 H HA_4 => ?_)
      refine ls_nil ?_
      refine then_normal ?_
      refine fr_eq (b := ⟨#[x0, undef, (.bool false), x12, x17, undef, undef, undef, x0, x9, x10, undef, x12, x12, x14, x15, x0, x17, x12, x17, x20, undef, undef, undef, undef, undef, undef, undef, undef, undef, undef, undef, undef, undef, undef, undef, undef, undef, undef, undef, undef, undef, undef, undef, undef, undef, undef, undef, undef, undef, undef, undef, undef, undef, undef, undef], []⟩) (by kernel_rfl) ?_
      refine wp_seq ?_
      refine wp_seq ?_
      refine lwp_list ?_
      refine ls_assign (x := (.int .i64 0)) (by kernel_rfl) (by kernel_rfl) ?_
      refine ls_nil ?_
      refine then_normal ?_
      refine fr_eq (b := ⟨#[x0, undef, (.bool false), x12, x17, (.int .i64 0), undef, undef, x0, x9, x10, undef, x12, x12, x14, x15, x0, x17, x12, x17, x20, undef, undef, undef, undef, undef, undef, undef, undef, undef, undef, undef, undef, undef, undef, undef, undef, undef, undef, undef, undef, undef, undef, undef, undef, undef, undef, undef, undef, undef, undef, undef, undef, undef, undef, undef], []⟩) (by kernel_rfl) ?_
      refine wp_block ?_
      obtain ⟨I, m, H0, HB⟩ := H
      refine wp_loop (fun a w => ∃ (D : Nat → Value) (x5 : Value) (h_5 : Heap), a = ⟨#[x0, undef, (.bool false), x12, x17, x5, undef, undef, x0, x9, x10, undef, x12, x12, x14, x15, x0, x17, x12, x17, x20, (D 0), (D 1), (D 2), (D 3), (D 4), (D 5), (D 6), (D 7), (D 8), (D 9), undef, undef, undef, undef, undef, undef, undef, undef, undef, undef, undef, undef, undef, undef, undef, undef, undef, undef, undef, undef, undef, undef, undef, undef, undef], []⟩ ∧ At w0 w h_5 ∧ I x5 h_5) (fun a w => m (a.tmps.getD 5 undef) w.heap) ?_ ?_
      · exact ⟨(fun i => ([undef, undef, undef, undef, undef, undef, undef, undef, undef, undef]).getD i undef), (.int .i64 0), h_4, by kernel_rfl, HA_4, H0⟩
      · rintro _ w_5 ⟨D, x5, h_5, rfl, HA_5, HI⟩
        have H : betonylaw26_BackOwn_l1 R x0 x12 x17 (fun x5' h' => I x5' h' ∧ m x5' h' < m x5 h_5) x5 h_5 := HB x5 h_5 HI
        clear HB H0 HI
        unfold betonylaw26_BackOwn_l1 at H
        refine wp_seq ?_
        refine wp_seq ?_
        refine lwp_list ?_
        refine ls_move (x := x5) (by kernel_rfl) (by kernel_rfl) ?_
        refine ls_move (x := x17) (by kernel_rfl) (by kernel_rfl) ?_
        refine ls_p (d := some 23) (by kernel_rfl) (by kernel_rfl) (p_len Tryd.underlying22 (by kernel_rfl) H) (fun x23 H => ?_)
        refine ls_p (d := some 24) (by kernel_rfl) (by kernel_rfl) (p_sLt (by kernel_rfl) (by kernel_rfl) H) (fun x24 H => ?_)
        refine ls_nil ?_
        refine then_normal ?_
        refine fr_eq (b := ⟨#[x0, undef, (.bool false), x12, x17, x5, undef, undef, x0, x9, x10, undef, x12, x12, x14, x15, x0, x17, x12, x17, x20, x5, x17, x23, x24, (D 4), (D 5), (D 6), (D 7), (D 8), (D 9), undef, undef, undef, undef, undef, undef, undef, undef, undef, undef, undef, undef, undef, undef, undef, undef, undef, undef, undef, undef, undef, undef, undef, undef, undef], []⟩) (by kernel_rfl) ?_
        refine wp_if rfl H (fun H => ?_) (fun H => ?_)
        · refine wp_skip ?_
          refine then_normal ?_
          refine fr_eq (b := ⟨#[x0, undef, (.bool false), x12, x17, x5, undef, undef, x0, x9, x10, undef, x12, x12, x14, x15, x0, x17, x12, x17, x20, x5, x17, x23, x24, (D 4), (D 5), (D 6), (D 7), (D 8), (D 9), undef, undef, undef, undef, undef, undef, undef, undef, undef, undef, undef, undef, undef, undef, undef, undef, undef, undef, undef, undef, undef, undef, undef, undef, undef], []⟩) (by kernel_rfl) ?_
          refine wp_seq ?_
          refine wp_block ?_
          refine lwp_list ?_
          refine ls_move (x := x17) (by kernel_rfl) (by kernel_rfl) ?_
          refine ls_move (x := x5) (by kernel_rfl) (by kernel_rfl) ?_
          refine ls_p (d := some 29) (by kernel_rfl) (by kernel_rfl) (p_ixs Tryd.underlying22 Tryd.sizeOf32 (by kernel_rfl) (by kernel_rfl) H) (fun x29 H => ?_)
          refine ls_p (d := some 30) (by kernel_rfl) (by kernel_rfl) (p_off Tryd.underlying32 rfl (fun w => ⟨_, Tryd.sizeOf21 w⟩) rfl (by kernel_rfl) H) (fun x30 H => ?_)
          refine ls_d (d := none) (by kernel_rfl) (by kernel_rfl) HA_5 (d_st Tryd.sizeOf21 (by kernel_rfl) (by kernel_rfl) H) (fun _ h_6 w_6 H HA_6 => ?_)
          refine ls_nil ?_
          refine block_normal ?_
          refine then_normal ?_
          refine fr_eq (b := ⟨#[x0, undef, (.bool false), x12, x17, x5, undef, undef, x0, x9, x10, undef, x12, x12, x14, x15, x0, x17, x12, x17, x20, x5, x17, x23, x24, (D 4), (D 5), x17, x5, x29, x30, undef, undef, undef, undef, undef, undef, undef, undef, undef, undef, undef, undef, undef, undef, undef, undef, undef, undef, undef, undef, undef, undef, undef, undef, undef], []⟩) (by kernel_rfl) ?_
          refine lwp_list ?_
          refine ls_move (x := x5) (by kernel_rfl) (by kernel_rfl) ?_
          refine ls_p (d := some 26) (by kernel_rfl) (by kernel_rfl) (p_add (by kernel_rfl) (by kernel_rfl) H) (fun x26 H => ?_)
          refine ls_assign (x := x26) (by kernel_rfl) (by kernel_rfl) ?_
          refine ls_nil ?_
          exact ⟨⟨(fun i => ([x5, x17, x23, x24, x5, x26, x17, x5, x29, x30]).getD i undef), x26, h_6, by kernel_rfl, HA_6, H.1⟩, loop_lt HA_6.heap HA_5.heap (by kernel_rfl) (by kernel_rfl) H.2⟩
        · refine wp_exit ?_
          refine then_exit ?_
          refine then_exit ?_
          refine block_exit ?_
          refine then_normal ?_
          refine fr_eq (b := ⟨#[x0, undef, (.bool false), x12, x17, x5, undef, undef, x0, x9, x10, undef, x12, x12, x14, x15, x0, x17, x12, x17, x20, x5, x17, x23, x24, (D 4), (D 5), (D 6), (D 7), (D 8), (D 9), undef, undef, undef, undef, undef, undef, undef, undef, undef, undef, undef, undef, undef, undef, undef, undef, undef, undef, undef, undef, undef, undef, undef, undef, undef], []⟩) (by kernel_rfl) ?_
          refine wp_seq ?_
          refine lwp_list ?_
          refine ls_move (x := x12) (by kernel_rfl) (by kernel_rfl) ?_
          refine ls_d (d := some 32) (by kernel_rfl) (by kernel_rfl) HA_5 (d_call (by kernel_rfl) (by kernel_rfl) H) (fun x32 h_7 w_7 H HA_7 => ?_)
          refine ls_assign (x := x32) (by kernel_rfl) (by kernel_rfl) ?_
          refine ls_nil ?_
          refine then_normal ?_
          refine fr_eq (b := ⟨#[x0, undef, (.bool false), x12, x17, x5, x32, undef, x0, x9, x10, undef, x12, x12, x14, x15, x0, x17, x12, x17, x20, x5, x17, x23, x24, (D 4), (D 5), (D 6), (D 7), (D 8), (D 9), x12, x32, undef, undef, undef, undef, undef, undef, undef, undef, undef, undef, undef, undef, undef, undef, undef, undef, undef, undef, undef, undef, undef, undef, undef], []⟩) (by kernel_rfl) ?_
          refine wp_seq ?_
          refine wp_seq ?_
          refine lwp_list ?_
          refine ls_assign (x := (.int .i64 0)) (by kernel_rfl) (by kernel_rfl) ?_
          refine ls_nil ?_
          refine then_normal ?_
          refine fr_eq (b := ⟨#[x0, undef, (.bool false), x12, x17, x5, x32, (.int .i64 0), x0, x9, x10, undef, x12, x12, x14, x15, x0, x17, x12, x17, x20, x5, x17, x23, x24, (D 4), (D 5), (D 6), (D 7), (D 8), (D 9), x12, x32, undef, undef, undef, undef, undef, undef, undef, undef, undef, undef, undef, undef, undef, undef, undef, undef, undef, undef, undef, undef, undef, undef, undef], []⟩) (by kernel_rfl) ?_
          refine wp_block ?_
          obtain ⟨I_1, m_1, H0, HB⟩ := H
          refine wp_loop (fun a w => ∃ (D_1 : Nat → Value) (x7 : Value) (h_8 : Heap), a = ⟨#[x0, undef, (.bool false), x12, x17, x5, x32, x7, x0, x9, x10, undef, x12, x12, x14, x15, x0, x17, x12, x17, x20, x5, x17, x23, x24, (D 4), (D 5), (D 6), (D 7), (D 8), (D 9), x12, x32, (D_1 0), (D_1 1), (D_1 2), (D_1 3), (D_1 4), (D_1 5), (D_1 6), (D_1 7), (D_1 8), (D_1 9), undef, undef, undef, undef, undef, undef, undef, undef, undef, undef, undef, undef, undef], []⟩ ∧ At w0 w h_8 ∧ I_1 x7 h_8) (fun a w => m_1 (a.tmps.getD 7 undef) w.heap) ?_ ?_
          · exact ⟨(fun i => ([undef, undef, undef, undef, undef, undef, undef, undef, undef, undef]).getD i undef), (.int .i64 0), h_7, by kernel_rfl, HA_7, H0⟩
          · rintro _ w_8 ⟨D_1, x7, h_8, rfl, HA_8, HI⟩
            have H : betonylaw26_BackOwn_l2 R x0 x12 x32 (fun x7' h' => I_1 x7' h' ∧ m_1 x7' h' < m_1 x7 h_8) x7 h_8 := HB x7 h_8 HI
            clear HB H0 HI
            unfold betonylaw26_BackOwn_l2 at H
            refine wp_seq ?_
            refine wp_seq ?_
            refine lwp_list ?_
            refine ls_move (x := x7) (by kernel_rfl) (by kernel_rfl) ?_
            refine ls_move (x := x32) (by kernel_rfl) (by kernel_rfl) ?_
            refine ls_p (d := some 35) (by kernel_rfl) (by kernel_rfl) (p_len Tryd.underlying22 (by kernel_rfl) H) (fun x35 H => ?_)
            refine ls_p (d := some 36) (by kernel_rfl) (by kernel_rfl) (p_sLt (by kernel_rfl) (by kernel_rfl) H) (fun x36 H => ?_)
            refine ls_nil ?_
            refine then_normal ?_
            refine fr_eq (b := ⟨#[x0, undef, (.bool false), x12, x17, x5, x32, x7, x0, x9, x10, undef, x12, x12, x14, x15, x0, x17, x12, x17, x20, x5, x17, x23, x24, (D 4), (D 5), (D 6), (D 7), (D 8), (D 9), x12, x32, x7, x32, x35, x36, (D_1 4), (D_1 5), (D_1 6), (D_1 7), (D_1 8), (D_1 9), undef, undef, undef, undef, undef, undef, undef, undef, undef, undef, undef, undef, undef], []⟩) (by kernel_rfl) ?_
            refine wp_if rfl H (fun H => ?_) (fun H => ?_)
            · refine wp_skip ?_
              refine then_normal ?_
              refine fr_eq (b := ⟨#[x0, undef, (.bool false), x12, x17, x5, x32, x7, x0, x9, x10, undef, x12, x12, x14, x15, x0, x17, x12, x17, x20, x5, x17, x23, x24, (D 4), (D 5), (D 6), (D 7), (D 8), (D 9), x12, x32, x7, x32, x35, x36, (D_1 4), (D_1 5), (D_1 6), (D_1 7), (D_1 8), (D_1 9), undef, undef, undef, undef, undef, undef, undef, undef, undef, undef, undef, undef, undef], []⟩) (by kernel_rfl) ?_
              refine wp_seq ?_
              refine wp_block ?_
              refine lwp_list ?_
              refine ls_move (x := x32) (by kernel_rfl) (by kernel_rfl) ?_
              refine ls_move (x := x7) (by kernel_rfl) (by kernel_rfl) ?_
              refine ls_p (d := some 41) (by kernel_rfl) (by kernel_rfl) (p_ixs Tryd.underlying22 Tryd.sizeOf32 (by kernel_rfl) (by kernel_rfl) H) (fun x41 H => ?_)
              refine ls_p (d := some 42) (by kernel_rfl) (by kernel_rfl) (p_off Tryd.underlying32 rfl (fun w => ⟨_, Tryd.sizeOf21 w⟩) rfl (by kernel_rfl) H) (fun x42 H => ?_)
              refine ls_d (d := none) (by kernel_rfl) (by kernel_rfl) HA_8 (d_st Tryd.sizeOf21 (by kernel_rfl) (by kernel_rfl) H) (fun _ h_9 w_9 H HA_9 => ?_)
              refine ls_nil ?_
              refine block_normal ?_
              refine then_normal ?_
              refine fr_eq (b := ⟨#[x0, undef, (.bool false), x12, x17, x5, x32, x7, x0, x9, x10, undef, x12, x12, x14, x15, x0, x17, x12, x17, x20, x5, x17, x23, x24, (D 4), (D 5), (D 6), (D 7), (D 8), (D 9), x12, x32, x7, x32, x35, x36, (D_1 4), (D_1 5), x32, x7, x41, x42, undef, undef, undef, undef, undef, undef, undef, undef, undef, undef, undef, undef, undef], []⟩) (by kernel_rfl) ?_
              refine lwp_list ?_
              refine ls_move (x := x7) (by kernel_rfl) (by kernel_rfl) ?_
              refine ls_p (d := some 38) (by kernel_rfl) (by kernel_rfl) (p_add (by kernel_rfl) (by kernel_rfl) H) (fun x38 H => ?_)
              refine ls_assign (x := x38) (by kernel_rfl) (by kernel_rfl) ?_
              refine ls_nil ?_
              exact ⟨⟨(fun i => ([x7, x32, x35, x36, x7, x38, x32, x7, x41, x42]).getD i undef), x38, h_9, by kernel_rfl, HA_9, H.1⟩, loop_lt HA_9.heap HA_8.heap (by kernel_rfl) (by kernel_rfl) H.2⟩
            · refine wp_exit ?_
              refine then_exit ?_
              refine then_exit ?_
              refine block_exit ?_
              refine then_normal ?_
              refine fr_eq (b := ⟨#[x0, undef, (.bool false), x12, x17, x5, x32, x7, x0, x9, x10, undef, x12, x12, x14, x15, x0, x17, x12, x17, x20, x5, x17, x23, x24, (D 4), (D 5), (D 6), (D 7), (D 8), (D 9), x12, x32, x7, x32, x35, x36, (D_1 4), (D_1 5), (D_1 6), (D_1 7), (D_1 8), (D_1 9), undef, undef, undef, undef, undef, undef, undef, undef, undef, undef, undef, undef, undef], []⟩) (by kernel_rfl) ?_
              refine wp_seq ?_
              refine lwp_list ?_
              refine ls_move (x := x12) (by kernel_rfl) (by kernel_rfl) ?_
              refine ls_d (d := some 44) (by kernel_rfl) (by kernel_rfl) HA_8 (d_call (by kernel_rfl) (by kernel_rfl) H) (fun x44 h_10 w_10 H HA_10 => ?_)
              refine ls_move (x := x0) (by kernel_rfl) (by kernel_rfl) ?_
              refine ls_d (d := some 46) (by kernel_rfl) (by kernel_rfl) HA_10 (d_call (by kernel_rfl) (by kernel_rfl) H) (fun x46 h_11 w_11 H HA_11 => ?_)
              refine ls_d (d := some 47) (by kernel_rfl) (by kernel_rfl) HA_11 (d_call (by kernel_rfl) (by kernel_rfl) H) (fun x47 h_12 w_12 H HA_12 => ?_)
              refine ls_move (x := x47) (by kernel_rfl) (by kernel_rfl) ?_
              refine ls_fr (b := ⟨#[x0, undef, (.bool false), x12, x17, x5, x32, x7, x0, x9, x10, undef, x12, x12, x14, x15, x0, x17, x12, x17, x20, x5, x17, x23, x24, (D 4), (D 5), (D 6), (D 7), (D 8), (D 9), x12, x32, x7, x32, x35, x36, (D_1 4), (D_1 5), (D_1 6), (D_1 7), (D_1 8), (D_1 9), x12, x44, x0, x46, x47, x47, undef, undef, undef, undef, undef, undef, undef], []⟩) (by kernel_rfl) ?_
              refine ls_andh [(), (), (), ()] (fun K a w => ∃ (D_2 : Nat → Value) (x52 : Value) (h_13 : Heap), a = ⟨#[x0, undef, (.bool false), x12, x17, x5, x32, x7, x0, x9, x10, undef, x12, x12, x14, x15, x0, x17, x12, x17, x20, x5, x17, x23, x24, (D 4), (D 5), (D 6), (D 7), (D 8), (D 9), x12, x32, x7, x32, x35, x36, (D_1 4), (D_1 5), (D_1 6), (D_1 7), (D_1 8), (D_1 9), x12, x44, x0, x46, x47, x47, (D_2 0), (D_2 1), (D_2 2), x52, undef, undef, undef], []⟩ ∧ At w0 w h_13 ∧ K x52 h_13) H (fun hb_1 H => ?_) (fun hb_1 H => ?_) ?_
              · refine ls_move (x := x12) (by rw [hb_1]; kernel_rfl) (by kernel_rfl) ?_
                refine ls_d (d := some 50) (by kernel_rfl) (by rw [hb_1]; kernel_rfl) HA_12 (d_call (by kernel_rfl) (by kernel_rfl) H) (fun x50 h_16 w_16 H HA_16 => ?_)
                refine ls_p (d := some 51) (by kernel_rfl) (by rw [hb_1]; kernel_rfl) (p_sEq (by kernel_rfl) (by kernel_rfl) H) (fun x51 H => ?_)
                refine ls_pick_t (x := x51) (by kernel_rfl) (by rw [hb_1]; kernel_rfl) (by kernel_rfl) ?_
                refine ls_nil ?_
                refine then_normal ?_
                exact ⟨(fun i => ([x12, x50, x51]).getD i undef), x51, h_16, by kernel_rfl, HA_16, H⟩
              · refine ls_skip (d := some 49) (by kernel_rfl) (by rw [hb_1]; kernel_rfl) ?_
                refine ls_skip (d := some 50) (by kernel_rfl) (by rw [hb_1]; kernel_rfl) ?_
                refine ls_skip (d := some 51) (by kernel_rfl) (by rw [hb_1]; kernel_rfl) ?_
                refine ls_pick_f (y := (.bool false)) (by kernel_rfl) (by rw [hb_1]; kernel_rfl) (by kernel_rfl) ?_
                refine ls_nil ?_
                refine then_normal ?_
                exact ⟨(fun i => ([undef, undef, undef]).getD i undef), (.bool false), h_12, by kernel_rfl, HA_12, H⟩
              · rintro _ w_13 ⟨D_2, x52, h_13, rfl, HA_13, H⟩
                refine ls_move (x := x52) (by kernel_rfl) (by kernel_rfl) ?_
                refine ls_andh [(), ()] (fun K a w => ∃ (D_3 : Nat → Value) (x55 : Value) (h_14 : Heap), a = ⟨#[x0, undef, (.bool false), x12, x17, x5, x32, x7, x0, x9, x10, undef, x12, x12, x14, x15, x0, x17, x12, x17, x20, x5, x17, x23, x24, (D 4), (D 5), (D 6), (D 7), (D 8), (D 9), x12, x32, x7, x32, x35, x36, (D_1 4), (D_1 5), (D_1 6), (D_1 7), (D_1 8), (D_1 9), x12, x44, x0, x46, x47, x47, (D_2 0), (D_2 1), (D_2 2), x52, x52, (D_3 0), x55], []⟩ ∧ At w0 w h_14 ∧ K x55 h_14) H (fun hb H => ?_) (fun hb H => ?_) ?_
                · refine ls_d (d := some 54) (by kernel_rfl) (by rw [hb]; kernel_rfl) HA_13 (d_call (by kernel_rfl) (by kernel_rfl) H) (fun x54 h_15 w_15 H HA_15 => ?_)
                  refine ls_pick_t (x := x54) (by kernel_rfl) (by rw [hb]; kernel_rfl) (by kernel_rfl) ?_
                  refine ls_nil ?_
                  refine then_normal ?_
                  exact ⟨(fun i => ([x54]).getD i undef), x54, h_15, by kernel_rfl, HA_15, H⟩
                · refine ls_skip (d := some 54) (by kernel_rfl) (by rw [hb]; kernel_rfl) ?_
                  refine ls_pick_f (y := (.bool false)) (by kernel_rfl) (by rw [hb]; kernel_rfl) (by kernel_rfl) ?_
                  refine ls_nil ?_
                  refine then_normal ?_
                  exact ⟨(fun i => ([undef]).getD i undef), (.bool false), h_13, by kernel_rfl, HA_13, H⟩
                · rintro _ w_14 ⟨D_3, x55, h_14, rfl, HA_14, H⟩
                  refine ls_assign (x := x55) (by kernel_rfl) (by kernel_rfl) ?_
                  refine ls_nil ?_
                  refine then_normal ?_
                  refine fr_eq (b := ⟨#[x0, undef, x55, x12, x17, x5, x32, x7, x0, x9, x10, undef, x12, x12, x14, x15, x0, x17, x12, x17, x20, x5, x17, x23, x24, (D 4), (D 5), (D 6), (D 7), (D 8), (D 9), x12, x32, x7, x32, x35, x36, (D_1 4), (D_1 5), (D_1 6), (D_1 7), (D_1 8), (D_1 9), x12, x44, x0, x46, x47, x47, (D_2 0), (D_2 1), (D_2 2), x52, x52, (D_3 0), x55], []⟩) (by kernel_rfl) ?_
                  refine wp_ret ?_
                  exact end1 (Tryd.results5) (by kernel_rfl) (by kernel_rfl) HA_14 H _ (.inr rfl)

end Go.Proofs.YtjlpgakoedigoaaDoor
