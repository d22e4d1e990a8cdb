/- The shallow reading of one function, and that the function does it. Written by a program. -/
import Derived.Test.YtbgipcikkedloaaDoorFnC
set_option linter.unusedVariables false
namespace Go.Proofs.YtbgipcikkedloaaDoor
open Go Go.HW

def betonyref03_Fit_l1 (R : Value → Heap → Prop) (x0 x1 : Value) (next : Value → Heap → Prop) (x5 : Value) (h : Heap) : Prop :=
  sLen x0 fun x8 =>
  sLt x5 x8 fun x9 =>
  sAndH x9 h (fun k =>
  sAdd .i64 x5 (.int .i64 1) fun x13 =>
  sSl x0 none (some x13) 1 fun x14 =>
  betonyref03_Text_c x14 h fun x15 h_2 => 
  sLe x15 x1 fun x17 =>
  k x17 h_2) fun x18 h_1 =>
  sIf x18 (sAdd .i64 x5 (.int .i64 1) fun x20 =>
  next x20 h_1) (R x5 h_1)
def betonyref03_Fit_S (x0 x1 : Value) (h : Heap) (R : Value → Heap → Prop) : Prop :=
  sLoop (S := Value) (fun nxt s h => betonyref03_Fit_l1 R x0 x1 (fun x5' h => nxt x5' h) s h) (.int .i64 0) h
set_option maxRecDepth 100000 in
theorem betonyref03_Fit_runs {x0 x1 : Value} {h : Heap} {R : Value → Heap → Prop} (H : betonyref03_Fit_S x0 x1 h R) : betonyref03_Fit_c x0 x1 h R := by
  unfold betonyref03_Fit_S at H
  refine runs_of (b := ⟨#[x0, x1, undef, undef, undef, undef, undef, undef, undef, undef, undef, undef, undef, undef, undef, undef, undef, undef, undef, undef, undef, undef], []⟩) Tryd.call12 Tryd.func12 rfl (by kernel_rfl) (fun w0 HA => ?_)
  refine wp_seq ?_
  refine lwp_list ?_
  refine ls_assign (x := (.int .i64 0)) (by kernel_rfl) (by kernel_rfl) ?_
  refine ls_nil ?_
  refine then_normal ?_
  refine fr_eq (b := ⟨#[x0, x1, undef, undef, (.int .i64 0), undef, undef, undef, undef, undef, undef, undef, undef, undef, undef, undef, undef, undef, undef, undef, undef, undef], []⟩) (by kernel_rfl) ?_
  refine wp_seq ?_
  refine lwp_list ?_
  refine ls_assign (x := (.int .i64 0)) (by kernel_rfl) (by kernel_rfl) ?_
  refine ls_nil ?_
  refine then_normal ?_
  refine fr_eq (b := ⟨#[x0, x1, undef, undef, (.int .i64 0), (.int .i64 0), undef, undef, undef, undef, undef, undef, undef, undef, undef, undef, undef, undef, undef, undef, undef, undef], []⟩) (by kernel_rfl) ?_
  refine wp_seq ?_
  refine wp_block ?_
  obtain ⟨I, m, H0, HB⟩ := H
  refine wp_loop (fun a w => ∃ (D : Nat → Value) (x5 : Value) (h : Heap), a = ⟨#[x0, x1, undef, undef, (.int .i64 0), x5, (D 0), (D 1), (D 2), (D 3), (D 4), (D 5), (D 6), (D 7), (D 8), (D 9), (D 10), (D 11), (D 12), (D 13), (D 14), undef], []⟩ ∧ At w0 w h ∧ I x5 h) (fun a w => m (a.tmps.getD 5 undef) w.heap) ?_ ?_
  · exact ⟨(fun i => ([undef, undef, undef, undef, undef, undef, undef, undef, undef, undef, undef, undef, undef, undef, undef]).getD i undef), (.int .i64 0), h, by kernel_rfl, HA, H0⟩
  · rintro _ w ⟨D, x5, h, rfl, HA, HI⟩
    have H : betonyref03_Fit_l1 R x0 x1 (fun x5' h' => I x5' h' ∧ m x5' h' < m x5 h) x5 h := HB x5 h HI
    clear HB H0 HI
    unfold betonyref03_Fit_l1 at H
    refine wp_seq ?_
    refine wp_seq ?_
    refine lwp_list ?_
    refine ls_move (x := x5) (by kernel_rfl) (by kernel_rfl) ?_
    refine ls_move (x := x0) (by kernel_rfl) (by kernel_rfl) ?_
    refine ls_p (d := some 8) (by kernel_rfl) (by kernel_rfl) (p_len Tryd.underlying26 (by kernel_rfl) H) (fun x8 H => ?_)
    refine ls_p (d := some 9) (by kernel_rfl) (by kernel_rfl) (p_sLt (by kernel_rfl) (by kernel_rfl) H) (fun x9 H => ?_)
    refine ls_move (x := x9) (by kernel_rfl) (by kernel_rfl) ?_
    refine ls_andh [(), (), (), (), (), (), (), ()] (fun K a w => ∃ (D_1 : Nat → Value) (x18 : Value) (h_1 : Heap), a = ⟨#[x0, x1, undef, undef, (.int .i64 0), x5, x5, x0, x8, x9, x9, (D_1 0), (D_1 1), (D_1 2), (D_1 3), (D_1 4), (D_1 5), (D_1 6), x18, (D 13), (D 14), undef], []⟩ ∧ At w0 w h_1 ∧ K x18 h_1) H (fun hb H => ?_) (fun hb H => ?_) ?_
    · refine ls_move (x := x0) (by rw [hb]; kernel_rfl) (by kernel_rfl) ?_
      refine ls_fr (b := ⟨#[x0, x1, undef, undef, (.int .i64 0), x5, x5, x0, x8, x9, x9, x0, (D 6), (D 7), (D 8), (D 9), (D 10), (D 11), (D 12), (D 13), (D 14), undef], []⟩) (by kernel_rfl) ?_
      refine ls_move (x := x5) (by rw [hb]; kernel_rfl) (by kernel_rfl) ?_
      refine ls_p (d := some 13) (by kernel_rfl) (by rw [hb]; kernel_rfl) (p_add (by kernel_rfl) (by kernel_rfl) H) (fun x13 H => ?_)
      refine ls_p (d := some 14) (by kernel_rfl) (by rw [hb]; kernel_rfl) (p_sl Tryd.underlying26 Tryd.sizeOf21 (by kernel_rfl) (by kernel_rfl) (by kernel_rfl) H) (fun x14 H => ?_)
      refine ls_d (d := some 15) (by kernel_rfl) (by rw [hb]; kernel_rfl) HA (d_call (by kernel_rfl) (by kernel_rfl) H) (fun x15 h_2 w_2 H HA_2 => ?_)
      refine ls_move (x := x1) (by rw [hb]; kernel_rfl) (by kernel_rfl) ?_
      refine ls_p (d := some 17) (by kernel_rfl) (by rw [hb]; kernel_rfl) (p_sLe (by kernel_rfl) (by kernel_rfl) H) (fun x17 H => ?_)
      refine ls_fr (b := ⟨#[x0, x1, undef, undef, (.int .i64 0), x5, x5, x0, x8, x9, x9, x0, x5, x13, x14, x15, x1, x17, (D 12), (D 13), (D 14), undef], []⟩) (by kernel_rfl) ?_
      refine ls_pick_t (x := x17) (by kernel_rfl) (by rw [hb]; kernel_rfl) (by kernel_rfl) ?_
      refine ls_nil ?_
      refine then_normal ?_
      exact ⟨(fun i => ([x0, x5, x13, x14, x15, x1, x17]).getD i undef), x17, h_2, by kernel_rfl, HA_2, H⟩
    · refine ls_skip (d := some 11) (by kernel_rfl) (by rw [hb]; kernel_rfl) ?_
      refine ls_fr (b := ⟨#[x0, x1, undef, undef, (.int .i64 0), x5, x5, x0, x8, x9, x9, undef, (D 6), (D 7), (D 8), (D 9), (D 10), (D 11), (D 12), (D 13), (D 14), undef], []⟩) (by kernel_rfl) ?_
      refine ls_skip (d := some 12) (by kernel_rfl) (by rw [hb]; kernel_rfl) ?_
      refine ls_skip (d := some 13) (by kernel_rfl) (by rw [hb]; kernel_rfl) ?_
      refine ls_skip (d := some 14) (by kernel_rfl) (by rw [hb]; kernel_rfl) ?_
      refine ls_skip (d := some 15) (by kernel_rfl) (by rw [hb]; kernel_rfl) ?_
      refine ls_skip (d := some 16) (by kernel_rfl) (by rw [hb]; kernel_rfl) ?_
      refine ls_skip (d := some 17) (by kernel_rfl) (by rw [hb]; kernel_rfl) ?_
      refine ls_fr (b := ⟨#[x0, x1, undef, undef, (.int .i64 0), x5, x5, x0, x8, x9, x9, undef, undef, undef, undef, undef, undef, undef, (D 12), (D 13), (D 14), undef], []⟩) (by kernel_rfl) ?_
      refine ls_pick_f (y := (.bool false)) (by kernel_rfl) (by rw [hb]; kernel_rfl) (by kernel_rfl) ?_
      refine ls_nil ?_
      refine then_normal ?_
      exact ⟨(fun i => ([undef, undef, undef, undef, undef, undef, undef]).getD i undef), (.bool false), h, by kernel_rfl, HA, H⟩
    · rintro _ w_1 ⟨D_1, x18, h_1, rfl, HA_1, H⟩
      refine ls_nil ?_
      refine then_normal ?_
      refine fr_eq (b := ⟨#[x0, x1, undef, undef, (.int .i64 0), x5, x5, x0, x8, x9, x9, (D_1 0), (D_1 1), (D_1 2), (D_1 3), (D_1 4), (D_1 5), (D_1 6), x18, (D 13), (D 14), undef], []⟩) (by kernel_rfl) ?_
      refine wp_if rfl H (fun H => ?_) (fun H => ?_)
      · refine wp_skip ?_
        refine then_normal ?_
        refine fr_eq (b := ⟨#[x0, x1, undef, undef, (.int .i64 0), x5, x5, x0, x8, x9, x9, (D_1 0), (D_1 1), (D_1 2), (D_1 3), (D_1 4), (D_1 5), (D_1 6), x18, (D 13), (D 14), undef], []⟩) (by kernel_rfl) ?_
        refine wp_block ?_
        refine lwp_list ?_
        refine ls_move (x := x5) (by kernel_rfl) (by kernel_rfl) ?_
        refine ls_p (d := some 20) (by kernel_rfl) (by kernel_rfl) (p_add (by kernel_rfl) (by kernel_rfl) H) (fun x20 H => ?_)
        refine ls_assign (x := x20) (by kernel_rfl) (by kernel_rfl) ?_
        refine ls_nil ?_
        refine block_normal ?_
        exact ⟨⟨(fun i => ([x5, x0, x8, x9, x9, (D_1 0), (D_1 1), (D_1 2), (D_1 3), (D_1 4), (D_1 5), (D_1 6), x18, x5, x20]).getD i undef), x20, h_1, by kernel_rfl, HA_1, H.1⟩, loop_lt HA_1.heap HA.heap (by kernel_rfl) (by kernel_rfl) H.2⟩
      · refine wp_exit ?_
        refine then_exit ?_
        refine then_exit ?_
        refine block_exit ?_
        refine then_normal ?_
        refine fr_eq (b := ⟨#[x0, x1, undef, undef, (.int .i64 0), x5, x5, x0, x8, x9, x9, (D_1 0), (D_1 1), (D_1 2), (D_1 3), (D_1 4), (D_1 5), (D_1 6), x18, (D 13), (D 14), undef], []⟩) (by kernel_rfl) ?_
        refine wp_seq ?_
        refine lwp_list ?_
        refine ls_move (x := x5) (by kernel_rfl) (by kernel_rfl) ?_
        refine ls_assign (x := x5) (by kernel_rfl) (by kernel_rfl) ?_
        refine ls_nil ?_
        refine then_normal ?_
        refine fr_eq (b := ⟨#[x0, x1, undef, undef, x5, x5, x5, x0, x8, x9, x9, (D_1 0), (D_1 1), (D_1 2), (D_1 3), (D_1 4), (D_1 5), (D_1 6), x18, (D 13), (D 14), x5], []⟩) (by kernel_rfl) ?_
        refine wp_ret ?_
        exact end1 (Tryd.results12) (by kernel_rfl) (by kernel_rfl) HA_1 H _ (.inr rfl)

end Go.Proofs.YtbgipcikkedloaaDoor
