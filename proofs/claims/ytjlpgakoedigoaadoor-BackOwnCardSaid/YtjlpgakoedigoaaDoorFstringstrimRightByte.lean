/- The shallow reading of one function, and that the function does it. Written by a program. -/
import Derived.Test.YtjlpgakoedigoaaDoorFnC
set_option linter.unusedVariables false
namespace Go.Proofs.YtjlpgakoedigoaaDoor
open Go Go.HW

def strings_trimRightByte_l1 (R : Value → Heap → Prop) (x1 : Value) (next : Value → Heap → Prop) (x0_1 : Value) (h : Heap) : Prop :=
  sLenB x0_1 fun x6 =>
  sGt x6 (.int .i64 0) fun x7 =>
  sAnd x7 (fun k =>
  sLenB x0_1 fun x11 =>
  sSub .i64 x11 (.int .i64 1) fun x12 =>
  sIxB x0_1 x12 fun x13 =>
  sEq x13 x1 fun x15 =>
  k x15) fun x16 =>
  sIf x16 (sLenB x0_1 fun x19 =>
  sSub .i64 x19 (.int .i64 1) fun x20 =>
  sSlB x0_1 none (some x20) fun x21 =>
  next x21 h) (R x0_1 h)
def strings_trimRightByte_S (x0 x1 : Value) (h : Heap) (R : Value → Heap → Prop) : Prop :=
  sLoop (S := Value) (fun nxt s h => strings_trimRightByte_l1 R x1 (fun x0_1' h => nxt x0_1' h) s h) x0 h
set_option maxRecDepth 100000 in
theorem strings_trimRightByte_runs {x0 x1 : Value} {h : Heap} {R : Value → Heap → Prop} (H : strings_trimRightByte_S x0 x1 h R) : strings_trimRightByte_c x0 x1 h R := by
  unfold strings_trimRightByte_S at H
  refine runs_of (b := ⟨#[x0, x1, undef, undef, undef, undef, undef, undef, undef, undef, undef, undef, undef, undef, undef, undef, undef, undef, undef, undef, undef, undef, undef], []⟩) Tryd.call27 Tryd.func27 rfl (by kernel_rfl) (fun w0 HA => ?_)
  refine wp_seq ?_
  refine lwp_list ?_
  refine ls_assign (x := (.string ⟨#[]⟩)) (by kernel_rfl) (by kernel_rfl) ?_
  refine ls_nil ?_
  refine then_normal ?_
  refine fr_eq (b := ⟨#[x0, x1, undef, undef, (.string ⟨#[]⟩), undef, undef, undef, undef, undef, undef, undef, undef, undef, undef, undef, undef, undef, undef, undef, undef, undef, undef], []⟩) (by kernel_rfl) ?_
  refine wp_seq ?_
  refine wp_block ?_
  obtain ⟨I, m, H0, HB⟩ := H
  refine wp_loop (fun a w => ∃ (D : Nat → Value) (x0_1 : Value) (h : Heap), a = ⟨#[x0_1, x1, undef, undef, (.string ⟨#[]⟩), (D 0), (D 1), (D 2), (D 3), (D 4), (D 5), (D 6), (D 7), (D 8), (D 9), (D 10), (D 11), (D 12), (D 13), (D 14), (D 15), (D 16), undef], []⟩ ∧ At w0 w h ∧ I x0_1 h) (fun a w => m (a.tmps.getD 0 undef) w.heap) ?_ ?_
  · exact ⟨(fun i => ([undef, undef, undef, undef, undef, undef, undef, undef, undef, undef, undef, undef, undef, undef, undef, undef, undef]).getD i undef), x0, h, by kernel_rfl, HA, H0⟩
  · rintro _ w ⟨D, x0_1, h, rfl, HA, HI⟩
    have H : strings_trimRightByte_l1 R x1 (fun x0_1' h' => I x0_1' h' ∧ m x0_1' h' < m x0_1 h) x0_1 h := HB x0_1 h HI
    clear HB H0 HI
    unfold strings_trimRightByte_l1 at H
    refine wp_seq ?_
    refine wp_seq ?_
    refine lwp_list ?_
    refine ls_move (x := x0_1) (by kernel_rfl) (by kernel_rfl) ?_
    refine ls_p (d := some 6) (by kernel_rfl) (by kernel_rfl) (p_lenb Tryd.underlying9 (by kernel_rfl) H) (fun x6 H => ?_)
    refine ls_p (d := some 7) (by kernel_rfl) (by kernel_rfl) (p_sGt (by kernel_rfl) (by kernel_rfl) H) (fun x7 H => ?_)
    refine ls_move (x := x7) (by kernel_rfl) (by kernel_rfl) ?_
    refine ls_and [(), (), (), (), (), (), (), ()] (fun K a w => ∃ (D_1 : Nat → Value) (x16 : Value), a = ⟨#[x0_1, x1, undef, undef, (.string ⟨#[]⟩), x0_1, x6, x7, x7, (D_1 0), (D_1 1), (D_1 2), (D_1 3), (D_1 4), (D_1 5), (D_1 6), x16, (D 12), (D 13), (D 14), (D 15), (D 16), undef], []⟩ ∧ At w0 w h ∧ K x16) H (fun hb H => ?_) (fun hb H => ?_) ?_
    · refine ls_move (x := x0_1) (by rw [hb]; kernel_rfl) (by kernel_rfl) ?_
      refine ls_move (x := x0_1) (by rw [hb]; kernel_rfl) (by kernel_rfl) ?_
      refine ls_fr (b := ⟨#[x0_1, x1, undef, undef, (.string ⟨#[]⟩), x0_1, x6, x7, x7, x0_1, x0_1, (D 6), (D 7), (D 8), (D 9), (D 10), (D 11), (D 12), (D 13), (D 14), (D 15), (D 16), undef], []⟩) (by kernel_rfl) ?_
      refine ls_p (d := some 11) (by kernel_rfl) (by rw [hb]; kernel_rfl) (p_lenb Tryd.underlying9 (by kernel_rfl) H) (fun x11 H => ?_)
      refine ls_p (d := some 12) (by kernel_rfl) (by rw [hb]; kernel_rfl) (p_sub (by kernel_rfl) (by kernel_rfl) H) (fun x12 H => ?_)
      refine ls_p (d := some 13) (by kernel_rfl) (by rw [hb]; kernel_rfl) (p_ixb Tryd.underlying9 (by kernel_rfl) (by kernel_rfl) H) (fun x13 H => ?_)
      refine ls_move (x := x1) (by rw [hb]; kernel_rfl) (by kernel_rfl) ?_
      refine ls_p (d := some 15) (by kernel_rfl) (by rw [hb]; kernel_rfl) (p_sEq (by kernel_rfl) (by kernel_rfl) H) (fun x15 H => ?_)
      refine ls_pick_t (x := x15) (by kernel_rfl) (by rw [hb]; kernel_rfl) (by kernel_rfl) ?_
      refine ls_nil ?_
      refine then_normal ?_
      exact ⟨(fun i => ([x0_1, x0_1, x11, x12, x13, x1, x15]).getD i undef), x15, by kernel_rfl, HA, H⟩
    · refine ls_skip (d := some 9) (by kernel_rfl) (by rw [hb]; kernel_rfl) ?_
      refine ls_skip (d := some 10) (by kernel_rfl) (by rw [hb]; kernel_rfl) ?_
      refine ls_fr (b := ⟨#[x0_1, x1, undef, undef, (.string ⟨#[]⟩), x0_1, x6, x7, x7, undef, undef, (D 6), (D 7), (D 8), (D 9), (D 10), (D 11), (D 12), (D 13), (D 14), (D 15), (D 16), undef], []⟩) (by kernel_rfl) ?_
      refine ls_skip (d := some 11) (by kernel_rfl) (by rw [hb]; kernel_rfl) ?_
      refine ls_skip (d := some 12) (by kernel_rfl) (by rw [hb]; kernel_rfl) ?_
      refine ls_skip (d := some 13) (by kernel_rfl) (by rw [hb]; kernel_rfl) ?_
      refine ls_skip (d := some 14) (by kernel_rfl) (by rw [hb]; kernel_rfl) ?_
      refine ls_skip (d := some 15) (by kernel_rfl) (by rw [hb]; kernel_rfl) ?_
      refine ls_pick_f (y := (.bool false)) (by kernel_rfl) (by rw [hb]; kernel_rfl) (by kernel_rfl) ?_
      refine ls_nil ?_
      refine then_normal ?_
      exact ⟨(fun i => ([undef, undef, undef, undef, undef, undef, undef]).getD i undef), (.bool false), by kernel_rfl, HA, H⟩
    · rintro _ w_1 ⟨D_1, x16, rfl, HA_1, H⟩
      refine ls_nil ?_
      refine then_normal ?_
      refine fr_eq (b := ⟨#[x0_1, x1, undef, undef, (.string ⟨#[]⟩), x0_1, x6, x7, x7, (D_1 0), (D_1 1), (D_1 2), (D_1 3), (D_1 4), (D_1 5), (D_1 6), x16, (D 12), (D 13), (D 14), (D 15), (D 16), undef], []⟩) (by kernel_rfl) ?_
      refine wp_if rfl H (fun H => ?_) (fun H => ?_)
      · refine wp_skip ?_
        refine then_normal ?_
        refine fr_eq (b := ⟨#[x0_1, x1, undef, undef, (.string ⟨#[]⟩), x0_1, x6, x7, x7, (D_1 0), (D_1 1), (D_1 2), (D_1 3), (D_1 4), (D_1 5), (D_1 6), x16, (D 12), (D 13), (D 14), (D 15), (D 16), undef], []⟩) (by kernel_rfl) ?_
        refine wp_block ?_
        refine lwp_list ?_
        refine ls_move (x := x0_1) (by kernel_rfl) (by kernel_rfl) ?_
        refine ls_move (x := x0_1) (by kernel_rfl) (by kernel_rfl) ?_
        refine ls_p (d := some 19) (by kernel_rfl) (by kernel_rfl) (p_lenb Tryd.underlying9 (by kernel_rfl) H) (fun x19 H => ?_)
        refine ls_p (d := some 20) (by kernel_rfl) (by kernel_rfl) (p_sub (by kernel_rfl) (by kernel_rfl) H) (fun x20 H => ?_)
        refine ls_p (d := some 21) (by kernel_rfl) (by kernel_rfl) (p_slb Tryd.underlying9 (by kernel_rfl) (by kernel_rfl) (by kernel_rfl) H) (fun x21 H => ?_)
        refine ls_assign (x := x21) (by kernel_rfl) (by kernel_rfl) ?_
        refine ls_nil ?_
        refine block_normal ?_
        exact ⟨⟨(fun i => ([x0_1, x6, x7, x7, (D_1 0), (D_1 1), (D_1 2), (D_1 3), (D_1 4), (D_1 5), (D_1 6), x16, x0_1, x0_1, x19, x20, x21]).getD i undef), x21, h, by kernel_rfl, HA_1, H.1⟩, loop_lt HA_1.heap HA.heap (by kernel_rfl) (by kernel_rfl) H.2⟩
      · refine wp_exit ?_
        refine then_exit ?_
        refine then_exit ?_
        refine block_exit ?_
        refine then_normal ?_
        refine fr_eq (b := ⟨#[x0_1, x1, undef, undef, (.string ⟨#[]⟩), x0_1, x6, x7, x7, (D_1 0), (D_1 1), (D_1 2), (D_1 3), (D_1 4), (D_1 5), (D_1 6), x16, (D 12), (D 13), (D 14), (D 15), (D 16), undef], []⟩) (by kernel_rfl) ?_
        refine wp_seq ?_
        refine lwp_list ?_
        refine ls_move (x := x0_1) (by kernel_rfl) (by kernel_rfl) ?_
        refine ls_assign (x := x0_1) (by kernel_rfl) (by kernel_rfl) ?_
        refine ls_nil ?_
        refine then_normal ?_
        refine fr_eq (b := ⟨#[x0_1, x1, undef, undef, x0_1, x0_1, x6, x7, x7, (D_1 0), (D_1 1), (D_1 2), (D_1 3), (D_1 4), (D_1 5), (D_1 6), x16, (D 12), (D 13), (D 14), (D 15), (D 16), x0_1], []⟩) (by kernel_rfl) ?_
        refine wp_ret ?_
        exact end1 (Tryd.results27) (by kernel_rfl) (by kernel_rfl) HA_1 H _ (.inr rfl)

end Go.Proofs.YtjlpgakoedigoaaDoor
