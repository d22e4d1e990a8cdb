/- The shallow reading of one function, and that the function does it. Written by a program. -/
import Derived.Test.YtbgipcikkedloaaDoorFnC
set_option linter.unusedVariables false
namespace Go.Proofs.YtbgipcikkedloaaDoor
open Go Go.HW

def betonyref03_in_l1 (R : Value → Heap → Prop) (x0 x1 : Value) (next : Value → Heap → Prop) (x5 : Value) (h : Heap) : Prop :=
  sAdd .i64 x5 (.int .i64 1) fun x7 =>
  sLen x0 fun x9 =>
  sLt x7 x9 fun x10 =>
  sIf x10 (sIxS x0 x5 1 fun x16 =>
  sLd h x16 fun x17 =>
  sGe x1 x17 fun x18 =>
  sAnd x18 (fun k =>
  sAdd .i64 x5 (.int .i64 1) fun x23 =>
  sIxS x0 x23 1 fun x24 =>
  sLd h x24 fun x25 =>
  sLe x1 x25 fun x26 =>
  k x26) fun x27 =>
  sIf x27 (R (.bool true) h) (sAdd .i64 x5 (.int .i64 2) fun x12 =>
  next x12 h)) (R (.bool false) h)
def betonyref03_in_S (x0 x1 : Value) (h : Heap) (R : Value → Heap → Prop) : Prop :=
  sLoop (S := Value) (fun nxt s h => betonyref03_in_l1 R x0 x1 (fun x5' h => nxt x5' h) s h) (.int .i64 0) h
set_option maxRecDepth 100000 in
theorem betonyref03_in_runs {x0 x1 : Value} {h : Heap} {R : Value → Heap → Prop} (H : betonyref03_in_S x0 x1 h R) : betonyref03_in_c x0 x1 h R := by
  unfold betonyref03_in_S at H
  refine runs_of (b := ⟨#[x0, x1, undef, undef, undef, undef, undef, undef, undef, undef, undef, undef, undef, undef, undef, undef, undef, undef, undef, undef, undef, undef, undef, undef, undef, undef, undef, undef], []⟩) Tryd.call14 Tryd.func14 rfl (by kernel_rfl) (fun w0 HA => ?_)
  refine wp_seq ?_
  refine lwp_list ?_
  refine ls_assign (x := (.bool false)) (by kernel_rfl) (by kernel_rfl) ?_
  refine ls_nil ?_
  refine then_normal ?_
  refine fr_eq (b := ⟨#[x0, x1, undef, undef, (.bool false), undef, undef, undef, undef, undef, undef, undef, undef, undef, undef, undef, undef, undef, undef, undef, undef, undef, undef, undef, undef, undef, undef, undef], []⟩) (by kernel_rfl) ?_
  refine wp_seq ?_
  refine wp_seq ?_
  refine lwp_list ?_
  refine ls_assign (x := (.int .i64 0)) (by kernel_rfl) (by kernel_rfl) ?_
  refine ls_nil ?_
  refine then_normal ?_
  refine fr_eq (b := ⟨#[x0, x1, undef, undef, (.bool false), (.int .i64 0), undef, undef, undef, undef, undef, undef, undef, undef, undef, undef, undef, undef, undef, undef, undef, undef, undef, undef, undef, undef, undef, undef], []⟩) (by kernel_rfl) ?_
  refine wp_block ?_
  obtain ⟨I, m, H0, HB⟩ := H
  refine wp_loop (fun a w => ∃ (D : Nat → Value) (x5 : Value) (h : Heap), a = ⟨#[x0, x1, undef, undef, (D 0), x5, (D 1), (D 2), (D 3), (D 4), (D 5), (D 6), (D 7), (D 8), (D 9), (D 10), (D 11), (D 12), (D 13), (D 14), (D 15), (D 16), (D 17), (D 18), (D 19), (D 20), (D 21), (D 22)], []⟩ ∧ At w0 w h ∧ I x5 h) (fun a w => m (a.tmps.getD 5 undef) w.heap) ?_ ?_
  · exact ⟨(fun i => ([(.bool false), undef, undef, undef, undef, undef, undef, undef, undef, undef, undef, undef, undef, undef, undef, undef, undef, undef, undef, undef, undef, undef, undef]).getD i undef), (.int .i64 0), h, by kernel_rfl, HA, H0⟩
  · rintro _ w ⟨D, x5, h, rfl, HA, HI⟩
    have H : betonyref03_in_l1 R x0 x1 (fun x5' h' => I x5' h' ∧ m x5' h' < m x5 h) x5 h := HB x5 h HI
    clear HB H0 HI
    unfold betonyref03_in_l1 at H
    refine wp_seq ?_
    refine wp_seq ?_
    refine lwp_list ?_
    refine ls_move (x := x5) (by kernel_rfl) (by kernel_rfl) ?_
    refine ls_p (d := some 7) (by kernel_rfl) (by kernel_rfl) (p_add (by kernel_rfl) (by kernel_rfl) H) (fun x7 H => ?_)
    refine ls_move (x := x0) (by kernel_rfl) (by kernel_rfl) ?_
    refine ls_p (d := some 9) (by kernel_rfl) (by kernel_rfl) (p_len Tryd.underlying38 (by kernel_rfl) H) (fun x9 H => ?_)
    refine ls_p (d := some 10) (by kernel_rfl) (by kernel_rfl) (p_sLt (by kernel_rfl) (by kernel_rfl) H) (fun x10 H => ?_)
    refine ls_nil ?_
    refine then_normal ?_
    refine fr_eq (b := ⟨#[x0, x1, undef, undef, (D 0), x5, x5, x7, x0, x9, x10, (D 6), (D 7), (D 8), (D 9), (D 10), (D 11), (D 12), (D 13), (D 14), (D 15), (D 16), (D 17), (D 18), (D 19), (D 20), (D 21), (D 22)], []⟩) (by kernel_rfl) ?_
    refine wp_if rfl H (fun H => ?_) (fun H => ?_)
    · refine wp_skip ?_
      refine then_normal ?_
      refine fr_eq (b := ⟨#[x0, x1, undef, undef, (D 0), x5, x5, x7, x0, x9, x10, (D 6), (D 7), (D 8), (D 9), (D 10), (D 11), (D 12), (D 13), (D 14), (D 15), (D 16), (D 17), (D 18), (D 19), (D 20), (D 21), (D 22)], []⟩) (by kernel_rfl) ?_
      refine wp_seq ?_
      refine wp_block ?_
      refine wp_seq ?_
      refine lwp_list ?_
      refine ls_move (x := x1) (by kernel_rfl) (by kernel_rfl) ?_
      refine ls_move (x := x0) (by kernel_rfl) (by kernel_rfl) ?_
      refine ls_move (x := x5) (by kernel_rfl) (by kernel_rfl) ?_
      refine ls_p (d := some 16) (by kernel_rfl) (by kernel_rfl) (p_ixs Tryd.underlying38 Tryd.sizeOf3 (by kernel_rfl) (by kernel_rfl) H) (fun x16 H => ?_)
      refine ls_y (d := some 17) (by kernel_rfl) (by kernel_rfl) HA (y_ld Tryd.isAgg3 (by kernel_rfl) H) (fun x17 H => ?_)
      refine ls_p (d := some 18) (by kernel_rfl) (by kernel_rfl) (p_sGe (by kernel_rfl) (by kernel_rfl) H) (fun x18 H => ?_)
      refine ls_fr (b := ⟨#[x0, x1, undef, undef, (D 0), x5, x5, x7, x0, x9, x10, (D 6), (D 7), x1, x0, x5, x16, x17, x18, (D 14), (D 15), (D 16), (D 17), (D 18), (D 19), (D 20), (D 21), (D 22)], []⟩) (by kernel_rfl) ?_
      refine ls_move (x := x18) (by kernel_rfl) (by kernel_rfl) ?_
      refine ls_and [(), (), (), (), (), (), (), ()] (fun K a w => ∃ (D_1 : Nat → Value) (x27 : Value), a = ⟨#[x0, x1, undef, undef, (D 0), x5, x5, x7, x0, x9, x10, (D 6), (D 7), x1, x0, x5, x16, x17, x18, x18, (D_1 0), (D_1 1), (D_1 2), (D_1 3), (D_1 4), (D_1 5), (D_1 6), x27], []⟩ ∧ At w0 w h ∧ K x27) H (fun hb H => ?_) (fun hb H => ?_) ?_
      · refine ls_move (x := x1) (by rw [hb]; kernel_rfl) (by kernel_rfl) ?_
        refine ls_move (x := x0) (by rw [hb]; kernel_rfl) (by kernel_rfl) ?_
        refine ls_move (x := x5) (by rw [hb]; kernel_rfl) (by kernel_rfl) ?_
        refine ls_p (d := some 23) (by kernel_rfl) (by rw [hb]; kernel_rfl) (p_add (by kernel_rfl) (by kernel_rfl) H) (fun x23 H => ?_)
        refine ls_p (d := some 24) (by kernel_rfl) (by rw [hb]; kernel_rfl) (p_ixs Tryd.underlying38 Tryd.sizeOf3 (by kernel_rfl) (by kernel_rfl) H) (fun x24 H => ?_)
        refine ls_fr (b := ⟨#[x0, x1, undef, undef, (D 0), x5, x5, x7, x0, x9, x10, (D 6), (D 7), x1, x0, x5, x16, x17, x18, x18, x1, x0, x5, x23, x24, (D 20), (D 21), (D 22)], []⟩) (by kernel_rfl) ?_
        refine ls_y (d := some 25) (by kernel_rfl) (by rw [hb]; kernel_rfl) HA (y_ld Tryd.isAgg3 (by kernel_rfl) H) (fun x25 H => ?_)
        refine ls_p (d := some 26) (by kernel_rfl) (by rw [hb]; kernel_rfl) (p_sLe (by kernel_rfl) (by kernel_rfl) H) (fun x26 H => ?_)
        refine ls_pick_t (x := x26) (by kernel_rfl) (by rw [hb]; kernel_rfl) (by kernel_rfl) ?_
        refine ls_nil ?_
        refine then_normal ?_
        exact ⟨(fun i => ([x1, x0, x5, x23, x24, x25, x26]).getD i undef), x26, by kernel_rfl, HA, H⟩
      · refine ls_skip (d := some 20) (by kernel_rfl) (by rw [hb]; kernel_rfl) ?_
        refine ls_skip (d := some 21) (by kernel_rfl) (by rw [hb]; kernel_rfl) ?_
        refine ls_skip (d := some 22) (by kernel_rfl) (by rw [hb]; kernel_rfl) ?_
        refine ls_skip (d := some 23) (by kernel_rfl) (by rw [hb]; kernel_rfl) ?_
        refine ls_skip (d := some 24) (by kernel_rfl) (by rw [hb]; kernel_rfl) ?_
        refine ls_fr (b := ⟨#[x0, x1, undef, undef, (D 0), x5, x5, x7, x0, x9, x10, (D 6), (D 7), x1, x0, x5, x16, x17, x18, x18, undef, undef, undef, undef, undef, (D 20), (D 21), (D 22)], []⟩) (by kernel_rfl) ?_
        refine ls_skip (d := some 25) (by kernel_rfl) (by rw [hb]; kernel_rfl) ?_
        refine ls_skip (d := some 26) (by kernel_rfl) (by rw [hb]; kernel_rfl) ?_
        refine ls_pick_f (y := (.bool false)) (by kernel_rfl) (by rw [hb]; kernel_rfl) (by kernel_rfl) ?_
        refine ls_nil ?_
        refine then_normal ?_
        exact ⟨(fun i => ([undef, undef, undef, undef, undef, undef, undef]).getD i undef), (.bool false), by kernel_rfl, HA, H⟩
      · rintro _ w_1 ⟨D_1, x27, rfl, HA_1, H⟩
        refine ls_nil ?_
        refine then_normal ?_
        refine fr_eq (b := ⟨#[x0, x1, undef, undef, (D 0), x5, x5, x7, x0, x9, x10, (D 6), (D 7), x1, x0, x5, x16, x17, x18, x18, (D_1 0), (D_1 1), (D_1 2), (D_1 3), (D_1 4), (D_1 5), (D_1 6), x27], []⟩) (by kernel_rfl) ?_
        refine wp_if rfl H (fun H => ?_) (fun H => ?_)
        · refine wp_seq ?_
          refine lwp_list ?_
          refine ls_assign (x := (.bool true)) (by kernel_rfl) (by kernel_rfl) ?_
          refine ls_nil ?_
          refine then_normal ?_
          refine fr_eq (b := ⟨#[x0, x1, undef, undef, (.bool true), x5, x5, x7, x0, x9, x10, (D 6), (D 7), x1, x0, x5, x16, x17, x18, x18, (D_1 0), (D_1 1), (D_1 2), (D_1 3), (D_1 4), (D_1 5), (D_1 6), x27], []⟩) (by kernel_rfl) ?_
          refine wp_ret ?_
          refine block_ret ?_
          refine then_ret ?_
          refine then_ret ?_
          refine block_ret ?_
          refine then_ret ?_
          exact end1 (Tryd.results14) (by kernel_rfl) (by kernel_rfl) HA_1 H _ (.inr rfl)
        · refine wp_skip ?_
          refine block_normal ?_
          refine then_normal ?_
          refine fr_eq (b := ⟨#[x0, x1, undef, undef, (D 0), x5, x5, x7, x0, x9, x10, (D 6), (D 7), x1, x0, x5, x16, x17, x18, x18, (D_1 0), (D_1 1), (D_1 2), (D_1 3), (D_1 4), (D_1 5), (D_1 6), x27], []⟩) (by kernel_rfl) ?_
          refine lwp_list ?_
          refine ls_move (x := x5) (by kernel_rfl) (by kernel_rfl) ?_
          refine ls_p (d := some 12) (by kernel_rfl) (by kernel_rfl) (p_add (by kernel_rfl) (by kernel_rfl) H) (fun x12 H => ?_)
          refine ls_assign (x := x12) (by kernel_rfl) (by kernel_rfl) ?_
          refine ls_nil ?_
          exact ⟨⟨(fun i => ([(D 0), x5, x7, x0, x9, x10, x5, x12, x1, x0, x5, x16, x17, x18, x18, (D_1 0), (D_1 1), (D_1 2), (D_1 3), (D_1 4), (D_1 5), (D_1 6), x27]).getD i undef), x12, h, by kernel_rfl, HA_1, H.1⟩, loop_lt HA_1.heap HA.heap (by kernel_rfl) (by kernel_rfl) H.2⟩
    · refine wp_exit ?_
      refine then_exit ?_
      refine then_exit ?_
      refine block_exit ?_
      refine then_normal ?_
      refine fr_eq (b := ⟨#[x0, x1, undef, undef, (D 0), x5, x5, x7, x0, x9, x10, (D 6), (D 7), (D 8), (D 9), (D 10), (D 11), (D 12), (D 13), (D 14), (D 15), (D 16), (D 17), (D 18), (D 19), (D 20), (D 21), (D 22)], []⟩) (by kernel_rfl) ?_
      refine wp_seq ?_
      refine lwp_list ?_
      refine ls_assign (x := (.bool false)) (by kernel_rfl) (by kernel_rfl) ?_
      refine ls_nil ?_
      refine then_normal ?_
      refine fr_eq (b := ⟨#[x0, x1, undef, undef, (.bool false), x5, x5, x7, x0, x9, x10, (D 6), (D 7), (D 8), (D 9), (D 10), (D 11), (D 12), (D 13), (D 14), (D 15), (D 16), (D 17), (D 18), (D 19), (D 20), (D 21), (D 22)], []⟩) (by kernel_rfl) ?_
      refine wp_ret ?_
      exact end1 (Tryd.results14) (by kernel_rfl) (by kernel_rfl) HA H _ (.inr rfl)

end Go.Proofs.YtbgipcikkedloaaDoor
