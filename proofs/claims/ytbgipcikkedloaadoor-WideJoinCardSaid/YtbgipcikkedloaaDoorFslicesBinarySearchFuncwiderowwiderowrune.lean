/- The shallow reading of one function, and that the function does it. Written by a program. -/
import Derived.Test.YtbgipcikkedloaaDoorFnC
set_option linter.unusedVariables false
namespace Go.Proofs.YtbgipcikkedloaaDoor
open Go Go.HW

def slices_BinarySearchFunc_wide_row_wide_row_rune_l1 (R : Value → Heap → Prop) (x0 x1 x2 x13 : Value) (next : Value → Value → Heap → Prop) (x9 x10 : Value) (h : Heap) : Prop :=
  sLt x9 x10 fun x17 =>
  sIf x17 (sAdd .i64 x9 x10 fun x20 =>
  sConv .u64 x20 fun x21 =>
  sShr .u64 x21 (.int .u64 1) fun x22 =>
  sConv .i64 x22 fun x23 =>
  sIxS x0 x23 2 fun x27 =>
  sLdN h x27 2 fun x28 =>
  sCallV Tryd.prog x2 #[x28, x1] h fun x30 h_1 => 
  sLt x30 (.int .i64 0) fun x31 =>
  sIf x31 (sAdd .i64 x23 (.int .i64 1) fun x33 =>
  next x33 x10 h_1) (next x9 x23 h_1)) (sLt x9 x13 fun x38 =>
  sAndH x38 h (fun k =>
  sIxS x0 x9 2 fun x43 =>
  sLdN h x43 2 fun x44 =>
  sCallV Tryd.prog x2 #[x44, x1] h fun x46 h_3 => 
  sEq x46 (.int .i64 0) fun x47 =>
  k x47 h_3) fun x48 h_2 =>
  R (.tuple #[x9, x48]) h_2)
def slices_BinarySearchFunc_wide_row_wide_row_rune_S (x0 x1 x2 : Value) (h : Heap) (R : Value → Heap → Prop) : Prop :=
  sLen x0 fun x13 =>
  sLoop (S := Value × Value) (fun nxt s h => slices_BinarySearchFunc_wide_row_wide_row_rune_l1 R x0 x1 x2 x13 (fun x9' x10' h => nxt (x9', x10') h) s.1 s.2 h) ((.int .i64 0), x13) h
set_option maxRecDepth 100000 in
theorem slices_BinarySearchFunc_wide_row_wide_row_rune_runs {x0 x1 x2 : Value} {h : Heap} {R : Value → Heap → Prop} (H : slices_BinarySearchFunc_wide_row_wide_row_rune_S x0 x1 x2 h R) : slices_BinarySearchFunc_wide_row_wide_row_rune_c x0 x1 x2 h R := by
  unfold slices_BinarySearchFunc_wide_row_wide_row_rune_S at H
  refine runs_of (b := ⟨#[x0, x1, x2, undef, undef, undef, undef, undef, undef, undef, undef, undef, undef, undef, undef, undef, undef, undef, undef, undef, undef, undef, undef, undef, undef, undef, undef, undef, undef, undef, undef, undef, undef, undef, undef, undef, undef, undef, undef, undef, undef, undef, undef, undef, undef, undef, undef, undef, undef], []⟩) Tryd.call15 Tryd.func15 rfl (by kernel_rfl) (fun w0 HA => ?_)
  refine wp_seq ?_
  refine lwp_list ?_
  refine ls_assign (x := (.int .i64 0)) (by kernel_rfl) (by kernel_rfl) ?_
  refine ls_assign (x := (.bool false)) (by kernel_rfl) (by kernel_rfl) ?_
  refine ls_nil ?_
  refine then_normal ?_
  refine fr_eq (b := ⟨#[x0, x1, x2, undef, undef, undef, (.int .i64 0), (.bool false), undef, undef, undef, undef, undef, undef, undef, undef, undef, undef, undef, undef, undef, undef, undef, undef, undef, undef, undef, undef, undef, undef, undef, undef, undef, undef, undef, undef, undef, undef, undef, undef, undef, undef, undef, undef, undef, undef, undef, undef, undef], []⟩) (by kernel_rfl) ?_
  refine wp_seq ?_
  refine lwp_list ?_
  refine ls_move (x := x0) (by kernel_rfl) (by kernel_rfl) ?_
  refine ls_p (d := some 13) (by kernel_rfl) (by kernel_rfl) (p_len Tryd.underlying32 (by kernel_rfl) H) (fun x13 H => ?_)
  refine ls_assign (x := x13) (by kernel_rfl) (by kernel_rfl) ?_
  refine ls_nil ?_
  refine then_normal ?_
  refine fr_eq (b := ⟨#[x0, x1, x2, undef, undef, undef, (.int .i64 0), (.bool false), x13, undef, undef, undef, x0, x13, undef, undef, undef, undef, undef, undef, undef, undef, undef, undef, undef, undef, undef, undef, undef, undef, undef, undef, undef, undef, undef, undef, undef, undef, undef, undef, undef, undef, undef, undef, undef, undef, undef, undef, undef], []⟩) (by kernel_rfl) ?_
  refine wp_seq ?_
  refine lwp_list ?_
  refine ls_move (x := x13) (by kernel_rfl) (by kernel_rfl) ?_
  refine ls_assign (x := (.int .i64 0)) (by kernel_rfl) (by kernel_rfl) ?_
  refine ls_assign (x := x13) (by kernel_rfl) (by kernel_rfl) ?_
  refine ls_nil ?_
  refine then_normal ?_
  refine fr_eq (b := ⟨#[x0, x1, x2, undef, undef, undef, (.int .i64 0), (.bool false), x13, (.int .i64 0), x13, undef, x0, x13, x13, undef, undef, undef, undef, undef, undef, undef, undef, undef, undef, undef, undef, undef, undef, undef, undef, undef, undef, undef, undef, undef, undef, undef, undef, undef, undef, undef, undef, undef, undef, undef, undef, undef, undef], []⟩) (by kernel_rfl) ?_
  refine wp_seq ?_
  refine wp_block ?_
  obtain ⟨I, m, H0, HB⟩ := H
  refine wp_loop (fun a w => ∃ (D : Nat → Value) (x9 x10 : Value) (h : Heap), a = ⟨#[x0, x1, x2, undef, undef, undef, (.int .i64 0), (.bool false), x13, x9, x10, (D 0), x0, x13, x13, (D 1), (D 2), (D 3), (D 4), (D 5), (D 6), (D 7), (D 8), (D 9), (D 10), (D 11), (D 12), (D 13), (D 14), (D 15), (D 16), (D 17), (D 18), (D 19), (D 20), undef, undef, undef, undef, undef, undef, undef, undef, undef, undef, undef, undef, undef, undef], []⟩ ∧ At w0 w h ∧ I (x9, x10) h) (fun a w => m ((a.tmps.getD 9 undef), (a.tmps.getD 10 undef)) w.heap) ?_ ?_
  · exact ⟨(fun i => ([undef, undef, undef, undef, undef, undef, undef, undef, undef, undef, undef, undef, undef, undef, undef, undef, undef, undef, undef, undef, undef]).getD i undef), (.int .i64 0), x13, h, by kernel_rfl, HA, H0⟩
  · rintro _ w ⟨D, x9, x10, h, rfl, HA, HI⟩
    have H : slices_BinarySearchFunc_wide_row_wide_row_rune_l1 R x0 x1 x2 x13 (fun x9' x10' h' => I (x9', x10') h' ∧ m (x9', x10') h' < m (x9, x10) h) x9 x10 h := HB (x9, x10) h HI
    clear HB H0 HI
    unfold slices_BinarySearchFunc_wide_row_wide_row_rune_l1 at H
    refine wp_seq ?_
    refine wp_seq ?_
    refine lwp_list ?_
    refine ls_move (x := x9) (by kernel_rfl) (by kernel_rfl) ?_
    refine ls_move (x := x10) (by kernel_rfl) (by kernel_rfl) ?_
    refine ls_p (d := some 17) (by kernel_rfl) (by kernel_rfl) (p_sLt (by kernel_rfl) (by kernel_rfl) H) (fun x17 H => ?_)
    refine ls_nil ?_
    refine then_normal ?_
    refine fr_eq (b := ⟨#[x0, x1, x2, undef, undef, undef, (.int .i64 0), (.bool false), x13, x9, x10, (D 0), x0, x13, x13, x9, x10, x17, (D 4), (D 5), (D 6), (D 7), (D 8), (D 9), (D 10), (D 11), (D 12), (D 13), (D 14), (D 15), (D 16), (D 17), (D 18), (D 19), (D 20), undef, undef, undef, undef, undef, undef, undef, undef, undef, undef, undef, undef, undef, undef], []⟩) (by kernel_rfl) ?_
    refine wp_if rfl H (fun H => ?_) (fun H => ?_)
    · refine wp_skip ?_
      refine then_normal ?_
      refine fr_eq (b := ⟨#[x0, x1, x2, undef, undef, undef, (.int .i64 0), (.bool false), x13, x9, x10, (D 0), x0, x13, x13, x9, x10, x17, (D 4), (D 5), (D 6), (D 7), (D 8), (D 9), (D 10), (D 11), (D 12), (D 13), (D 14), (D 15), (D 16), (D 17), (D 18), (D 19), (D 20), undef, undef, undef, undef, undef, undef, undef, undef, undef, undef, undef, undef, undef, undef], []⟩) (by kernel_rfl) ?_
      refine wp_block ?_
      refine wp_seq ?_
      refine lwp_list ?_
      refine ls_move (x := x9) (by kernel_rfl) (by kernel_rfl) ?_
      refine ls_move (x := x10) (by kernel_rfl) (by kernel_rfl) ?_
      refine ls_p (d := some 20) (by kernel_rfl) (by kernel_rfl) (p_add (by kernel_rfl) (by kernel_rfl) H) (fun x20 H => ?_)
      refine ls_p (d := some 21) (by kernel_rfl) (by kernel_rfl) (p_conv Tryd.underlying3 Tryd.underlying42 (by kernel_rfl) H) (fun x21 H => ?_)
      refine ls_p (d := some 22) (by kernel_rfl) (by kernel_rfl) (p_shr (by kernel_rfl) (by kernel_rfl) H) (fun x22 H => ?_)
      refine ls_p (d := some 23) (by kernel_rfl) (by kernel_rfl) (p_conv Tryd.underlying42 Tryd.underlying3 (by kernel_rfl) H) (fun x23 H => ?_)
      refine ls_fr (b := ⟨#[x0, x1, x2, undef, undef, undef, (.int .i64 0), (.bool false), x13, x9, x10, (D 0), x0, x13, x13, x9, x10, x17, x9, x10, x20, x21, x22, x23, (D 10), (D 11), (D 12), (D 13), (D 14), (D 15), (D 16), (D 17), (D 18), (D 19), (D 20), undef, undef, undef, undef, undef, undef, undef, undef, undef, undef, undef, undef, undef, undef], []⟩) (by kernel_rfl) ?_
      refine ls_assign (x := x23) (by kernel_rfl) (by kernel_rfl) ?_
      refine ls_nil ?_
      refine then_normal ?_
      refine fr_eq (b := ⟨#[x0, x1, x2, undef, undef, undef, (.int .i64 0), (.bool false), x13, x9, x10, x23, x0, x13, x13, x9, x10, x17, x9, x10, x20, x21, x22, x23, (D 10), (D 11), (D 12), (D 13), (D 14), (D 15), (D 16), (D 17), (D 18), (D 19), (D 20), undef, undef, undef, undef, undef, undef, undef, undef, undef, undef, undef, undef, undef, undef], []⟩) (by kernel_rfl) ?_
      refine wp_seq ?_
      refine lwp_list ?_
      refine ls_move (x := x2) (by kernel_rfl) (by kernel_rfl) ?_
      refine ls_move (x := x0) (by kernel_rfl) (by kernel_rfl) ?_
      refine ls_move (x := x23) (by kernel_rfl) (by kernel_rfl) ?_
      refine ls_p (d := some 27) (by kernel_rfl) (by kernel_rfl) (p_ixs Tryd.underlying32 Tryd.sizeOf34 (by kernel_rfl) (by kernel_rfl) H) (fun x27 H => ?_)
      refine ls_y (d := some 28) (by kernel_rfl) (by kernel_rfl) HA (y_ldn Tryd.isAgg34 Tryd.sizeOf34 (by kernel_rfl) H) (fun x28 H => ?_)
      refine ls_move (x := x1) (by kernel_rfl) (by kernel_rfl) ?_
      refine ls_fr (b := ⟨#[x0, x1, x2, undef, undef, undef, (.int .i64 0), (.bool false), x13, x9, x10, x23, x0, x13, x13, x9, x10, x17, x9, x10, x20, x21, x22, x23, x2, x0, x23, x27, x28, x1, (D 16), (D 17), (D 18), (D 19), (D 20), undef, undef, undef, undef, undef, undef, undef, undef, undef, undef, undef, undef, undef, undef], []⟩) (by kernel_rfl) ?_
      refine ls_d (d := some 30) (by kernel_rfl) (by kernel_rfl) HA (d_callx (by kernel_rfl) (by kernel_rfl) H) (fun x30 h_1 w_1 H HA_1 => ?_)
      refine ls_p (d := some 31) (by kernel_rfl) (by kernel_rfl) (p_sLt (by kernel_rfl) (by kernel_rfl) H) (fun x31 H => ?_)
      refine ls_nil ?_
      refine then_normal ?_
      refine fr_eq (b := ⟨#[x0, x1, x2, undef, undef, undef, (.int .i64 0), (.bool false), x13, x9, x10, x23, x0, x13, x13, x9, x10, x17, x9, x10, x20, x21, x22, x23, x2, x0, x23, x27, x28, x1, x30, x31, (D 18), (D 19), (D 20), undef, undef, undef, undef, undef, undef, undef, undef, undef, undef, undef, undef, undef, undef], []⟩) (by kernel_rfl) ?_
      refine wp_if rfl H (fun H => ?_) (fun H => ?_)
      · refine lwp_list ?_
        refine ls_move (x := x23) (by kernel_rfl) (by kernel_rfl) ?_
        refine ls_p (d := some 33) (by kernel_rfl) (by kernel_rfl) (p_add (by kernel_rfl) (by kernel_rfl) H) (fun x33 H => ?_)
        refine ls_assign (x := x33) (by kernel_rfl) (by kernel_rfl) ?_
        refine ls_nil ?_
        refine block_normal ?_
        exact ⟨⟨(fun i => ([x23, x9, x10, x17, x9, x10, x20, x21, x22, x23, x2, x0, x23, x27, x28, x1, x30, x31, x23, x33, (D 20)]).getD i undef), x33, x10, h_1, by kernel_rfl, HA_1, H.1⟩, loop_lt HA_1.heap HA.heap (by kernel_rfl) (by kernel_rfl) H.2⟩
      · refine lwp_list ?_
        refine ls_move (x := x23) (by kernel_rfl) (by kernel_rfl) ?_
        refine ls_assign (x := x23) (by kernel_rfl) (by kernel_rfl) ?_
        refine ls_nil ?_
        refine block_normal ?_
        exact ⟨⟨(fun i => ([x23, x9, x10, x17, x9, x10, x20, x21, x22, x23, x2, x0, x23, x27, x28, x1, x30, x31, (D 18), (D 19), x23]).getD i undef), x9, x23, h_1, by kernel_rfl, HA_1, H.1⟩, loop_lt HA_1.heap HA.heap (by kernel_rfl) (by kernel_rfl) H.2⟩
    · refine wp_exit ?_
      refine then_exit ?_
      refine then_exit ?_
      refine block_exit ?_
      refine then_normal ?_
      refine fr_eq (b := ⟨#[x0, x1, x2, undef, undef, undef, (.int .i64 0), (.bool false), x13, x9, x10, (D 0), x0, x13, x13, x9, x10, x17, (D 4), (D 5), (D 6), (D 7), (D 8), (D 9), (D 10), (D 11), (D 12), (D 13), (D 14), (D 15), (D 16), (D 17), (D 18), (D 19), (D 20), undef, undef, undef, undef, undef, undef, undef, undef, undef, undef, undef, undef, undef, undef], []⟩) (by kernel_rfl) ?_
      refine wp_seq ?_
      refine lwp_list ?_
      refine ls_move (x := x9) (by kernel_rfl) (by kernel_rfl) ?_
      refine ls_move (x := x9) (by kernel_rfl) (by kernel_rfl) ?_
      refine ls_move (x := x13) (by kernel_rfl) (by kernel_rfl) ?_
      refine ls_p (d := some 38) (by kernel_rfl) (by kernel_rfl) (p_sLt (by kernel_rfl) (by kernel_rfl) H) (fun x38 H => ?_)
      refine ls_move (x := x38) (by kernel_rfl) (by kernel_rfl) ?_
      refine ls_andh [(), (), (), (), (), (), (), (), ()] (fun K a w => ∃ (D_1 : Nat → Value) (x48 : Value) (h_2 : Heap), a = ⟨#[x0, x1, x2, undef, undef, undef, (.int .i64 0), (.bool false), x13, x9, x10, (D 0), x0, x13, x13, x9, x10, x17, (D 4), (D 5), (D 6), (D 7), (D 8), (D 9), (D 10), (D 11), (D 12), (D 13), (D 14), (D 15), (D 16), (D 17), (D 18), (D 19), (D 20), x9, x9, x13, x38, x38, (D_1 0), (D_1 1), (D_1 2), (D_1 3), (D_1 4), (D_1 5), (D_1 6), (D_1 7), x48], []⟩ ∧ At w0 w h_2 ∧ K x48 h_2) H (fun hb H => ?_) (fun hb H => ?_) ?_
      · refine ls_move (x := x2) (by rw [hb]; kernel_rfl) (by kernel_rfl) ?_
        refine ls_fr (b := ⟨#[x0, x1, x2, undef, undef, undef, (.int .i64 0), (.bool false), x13, x9, x10, (D 0), x0, x13, x13, x9, x10, x17, (D 4), (D 5), (D 6), (D 7), (D 8), (D 9), (D 10), (D 11), (D 12), (D 13), (D 14), (D 15), (D 16), (D 17), (D 18), (D 19), (D 20), x9, x9, x13, x38, x38, x2, undef, undef, undef, undef, undef, undef, undef, undef], []⟩) (by kernel_rfl) ?_
        refine ls_move (x := x0) (by rw [hb]; kernel_rfl) (by kernel_rfl) ?_
        refine ls_move (x := x9) (by rw [hb]; kernel_rfl) (by kernel_rfl) ?_
        refine ls_p (d := some 43) (by kernel_rfl) (by rw [hb]; kernel_rfl) (p_ixs Tryd.underlying32 Tryd.sizeOf34 (by kernel_rfl) (by kernel_rfl) H) (fun x43 H => ?_)
        refine ls_y (d := some 44) (by kernel_rfl) (by rw [hb]; kernel_rfl) HA (y_ldn Tryd.isAgg34 Tryd.sizeOf34 (by kernel_rfl) H) (fun x44 H => ?_)
        refine ls_move (x := x1) (by rw [hb]; kernel_rfl) (by kernel_rfl) ?_
        refine ls_d (d := some 46) (by kernel_rfl) (by rw [hb]; kernel_rfl) HA (d_callx (by kernel_rfl) (by kernel_rfl) H) (fun x46 h_3 w_3 H HA_3 => ?_)
        refine ls_fr (b := ⟨#[x0, x1, x2, undef, undef, undef, (.int .i64 0), (.bool false), x13, x9, x10, (D 0), x0, x13, x13, x9, x10, x17, (D 4), (D 5), (D 6), (D 7), (D 8), (D 9), (D 10), (D 11), (D 12), (D 13), (D 14), (D 15), (D 16), (D 17), (D 18), (D 19), (D 20), x9, x9, x13, x38, x38, x2, x0, x9, x43, x44, x1, x46, undef, undef], []⟩) (by kernel_rfl) ?_
        refine ls_p (d := some 47) (by kernel_rfl) (by rw [hb]; kernel_rfl) (p_sEq (by kernel_rfl) (by kernel_rfl) H) (fun x47 H => ?_)
        refine ls_pick_t (x := x47) (by kernel_rfl) (by rw [hb]; kernel_rfl) (by kernel_rfl) ?_
        refine ls_nil ?_
        refine then_normal ?_
        exact ⟨(fun i => ([x2, x0, x9, x43, x44, x1, x46, x47]).getD i undef), x47, h_3, by kernel_rfl, HA_3, H⟩
      · refine ls_skip (d := some 40) (by kernel_rfl) (by rw [hb]; kernel_rfl) ?_
        refine ls_fr (b := ⟨#[x0, x1, x2, undef, undef, undef, (.int .i64 0), (.bool false), x13, x9, x10, (D 0), x0, x13, x13, x9, x10, x17, (D 4), (D 5), (D 6), (D 7), (D 8), (D 9), (D 10), (D 11), (D 12), (D 13), (D 14), (D 15), (D 16), (D 17), (D 18), (D 19), (D 20), x9, x9, x13, x38, x38, undef, undef, undef, undef, undef, undef, undef, undef, undef], []⟩) (by kernel_rfl) ?_
        refine ls_skip (d := some 41) (by kernel_rfl) (by rw [hb]; kernel_rfl) ?_
        refine ls_skip (d := some 42) (by kernel_rfl) (by rw [hb]; kernel_rfl) ?_
        refine ls_skip (d := some 43) (by kernel_rfl) (by rw [hb]; kernel_rfl) ?_
        refine ls_skip (d := some 44) (by kernel_rfl) (by rw [hb]; kernel_rfl) ?_
        refine ls_skip (d := some 45) (by kernel_rfl) (by rw [hb]; kernel_rfl) ?_
        refine ls_skip (d := some 46) (by kernel_rfl) (by rw [hb]; kernel_rfl) ?_
        refine ls_fr (b := ⟨#[x0, x1, x2, undef, undef, undef, (.int .i64 0), (.bool false), x13, x9, x10, (D 0), x0, x13, x13, x9, x10, x17, (D 4), (D 5), (D 6), (D 7), (D 8), (D 9), (D 10), (D 11), (D 12), (D 13), (D 14), (D 15), (D 16), (D 17), (D 18), (D 19), (D 20), x9, x9, x13, x38, x38, undef, undef, undef, undef, undef, undef, undef, undef, undef], []⟩) (by kernel_rfl) ?_
        refine ls_skip (d := some 47) (by kernel_rfl) (by rw [hb]; kernel_rfl) ?_
        refine ls_pick_f (y := (.bool false)) (by kernel_rfl) (by rw [hb]; kernel_rfl) (by kernel_rfl) ?_
        refine ls_nil ?_
        refine then_normal ?_
        exact ⟨(fun i => ([undef, undef, undef, undef, undef, undef, undef, undef]).getD i undef), (.bool false), h, by kernel_rfl, HA, H⟩
      · rintro _ w_2 ⟨D_1, x48, h_2, rfl, HA_2, H⟩
        refine ls_assign (x := x9) (by kernel_rfl) (by kernel_rfl) ?_
        refine ls_assign (x := x48) (by kernel_rfl) (by kernel_rfl) ?_
        refine ls_nil ?_
        refine then_normal ?_
        refine fr_eq (b := ⟨#[x0, x1, x2, undef, undef, undef, x9, x48, x13, x9, x10, (D 0), x0, x13, x13, x9, x10, x17, (D 4), (D 5), (D 6), (D 7), (D 8), (D 9), (D 10), (D 11), (D 12), (D 13), (D 14), (D 15), (D 16), (D 17), (D 18), (D 19), (D 20), x9, x9, x13, x38, x38, (D_1 0), (D_1 1), (D_1 2), (D_1 3), (D_1 4), (D_1 5), (D_1 6), (D_1 7), x48], []⟩) (by kernel_rfl) ?_
        refine wp_ret ?_
        exact end2 (Tryd.results15) (by kernel_rfl) (by kernel_rfl) (by kernel_rfl) HA_2 H _ (.inr rfl)

end Go.Proofs.YtbgipcikkedloaaDoor
