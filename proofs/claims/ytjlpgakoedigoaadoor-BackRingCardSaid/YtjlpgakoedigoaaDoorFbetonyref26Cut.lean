/- The shallow reading of one function, and that the function does it. Written by a program. -/
import Derived.Test.YtjlpgakoedigoaaDoorFnC
set_option linter.unusedVariables false
namespace Go.Proofs.YtjlpgakoedigoaaDoor
open Go Go.HW

def betonyref26_Cut_l1 (R : Value → Heap → Prop) (x0 : Value) (next : Value → Heap → Prop) (x3 : Value) (h : Heap) : Prop :=
  sGt x3 (.int .i64 0) fun x7 =>
  sAnd x7 (fun k =>
  sSub .i64 x3 (.int .i64 1) fun x11 =>
  sIxS x0 x11 4 fun x12 =>
  sLdN h x12 4 fun x13 =>
  sBuild #[.int .i32 0, .int .i64 0, .int .i64 0, .int .i64 0] [] fun x14 =>
  sEqlAgg x13 x14 [some .i32, some .i64, some .i64, some .i64] fun x15 =>
  k x15) fun x16 =>
  sIf x16 (sSub .i64 x3 (.int .i64 1) fun x18 =>
  next x18 h) (sSl x0 none (some x3) 4 fun x21 =>
  R x21 h)
def betonyref26_Cut_S (x0 : Value) (h : Heap) (R : Value → Heap → Prop) : Prop :=
  sLen x0 fun x5 =>
  sLoop (S := Value) (fun nxt s h => betonyref26_Cut_l1 R x0 (fun x3' h => nxt x3' h) s h) x5 h
set_option maxRecDepth 100000 in
theorem betonyref26_Cut_runs {x0 : Value} {h : Heap} {R : Value → Heap → Prop} (H : betonyref26_Cut_S x0 h R) : betonyref26_Cut_c x0 h R := by
  unfold betonyref26_Cut_S at H
  refine runs_of (b := ⟨#[x0, undef, undef, undef, undef, undef, undef, undef, undef, undef, undef, undef, undef, undef, undef, undef, undef, undef, undef, undef, undef, undef], []⟩) Tryd.call16 Tryd.func16 rfl (by kernel_rfl) (fun w0 HA => ?_)
  refine wp_seq ?_
  refine lwp_list ?_
  refine ls_assign (x := (.slice none 0 0)) (by kernel_rfl) (by kernel_rfl) ?_
  refine ls_nil ?_
  refine then_normal ?_
  refine fr_eq (b := ⟨#[x0, undef, (.slice none 0 0), undef, undef, undef, undef, undef, undef, undef, undef, undef, undef, undef, undef, undef, undef, undef, undef, undef, undef, undef], []⟩) (by kernel_rfl) ?_
  refine wp_seq ?_
  refine lwp_list ?_
  refine ls_move (x := x0) (by kernel_rfl) (by kernel_rfl) ?_
  refine ls_p (d := some 5) (by kernel_rfl) (by kernel_rfl) (p_len Tryd.underlying22 (by kernel_rfl) H) (fun x5 H => ?_)
  refine ls_assign (x := x5) (by kernel_rfl) (by kernel_rfl) ?_
  refine ls_nil ?_
  refine then_normal ?_
  refine fr_eq (b := ⟨#[x0, undef, (.slice none 0 0), x5, x0, x5, undef, undef, undef, undef, undef, undef, undef, undef, undef, undef, undef, undef, undef, undef, undef, undef], []⟩) (by kernel_rfl) ?_
  refine wp_seq ?_
  refine wp_block ?_
  obtain ⟨I, m, H0, HB⟩ := H
  refine wp_loop (fun a w => ∃ (D : Nat → Value) (x3 : Value) (h : Heap), a = ⟨#[x0, undef, (.slice none 0 0), x3, x0, x5, (D 0), (D 1), (D 2), (D 3), (D 4), (D 5), (D 6), (D 7), (D 8), (D 9), (D 10), (D 11), (D 12), undef, undef, undef], []⟩ ∧ At w0 w h ∧ I x3 h) (fun a w => m (a.tmps.getD 3 undef) w.heap) ?_ ?_
  · exact ⟨(fun i => ([undef, undef, undef, undef, undef, undef, undef, undef, undef, undef, undef, undef, undef]).getD i undef), x5, h, by kernel_rfl, HA, H0⟩
  · rintro _ w ⟨D, x3, h, rfl, HA, HI⟩
    have H : betonyref26_Cut_l1 R x0 (fun x3' h' => I x3' h' ∧ m x3' h' < m x3 h) x3 h := HB x3 h HI
    clear HB H0 HI
    unfold betonyref26_Cut_l1 at H
    refine wp_seq ?_
    refine wp_seq ?_
    refine lwp_list ?_
    refine ls_move (x := x3) (by kernel_rfl) (by kernel_rfl) ?_
    refine ls_p (d := some 7) (by kernel_rfl) (by kernel_rfl) (p_sGt (by kernel_rfl) (by kernel_rfl) H) (fun x7 H => ?_)
    refine ls_move (x := x7) (by kernel_rfl) (by kernel_rfl) ?_
    refine ls_and [(), (), (), (), (), (), (), ()] (fun K a w => ∃ (D_1 : Nat → Value) (x16 : Value), a = ⟨#[x0, undef, (.slice none 0 0), x3, x0, x5, x3, x7, x7, (D_1 0), (D_1 1), (D_1 2), (D_1 3), (D_1 4), (D_1 5), (D_1 6), x16, (D 11), (D 12), undef, undef, undef], []⟩ ∧ At w0 w h ∧ K x16) H (fun hb H => ?_) (fun hb H => ?_) ?_
    · refine ls_move (x := x0) (by rw [hb]; kernel_rfl) (by kernel_rfl) ?_
      refine ls_move (x := x3) (by rw [hb]; kernel_rfl) (by kernel_rfl) ?_
      refine ls_p (d := some 11) (by kernel_rfl) (by rw [hb]; kernel_rfl) (p_sub (by kernel_rfl) (by kernel_rfl) H) (fun x11 H => ?_)
      refine ls_fr (b := ⟨#[x0, undef, (.slice none 0 0), x3, x0, x5, x3, x7, x7, x0, x3, x11, (D 6), (D 7), (D 8), (D 9), (D 10), (D 11), (D 12), undef, undef, undef], []⟩) (by kernel_rfl) ?_
      refine ls_p (d := some 12) (by kernel_rfl) (by rw [hb]; kernel_rfl) (p_ixs Tryd.underlying22 Tryd.sizeOf32 (by kernel_rfl) (by kernel_rfl) H) (fun x12 H => ?_)
      refine ls_y (d := some 13) (by kernel_rfl) (by rw [hb]; kernel_rfl) HA (y_ldn Tryd.isAgg32 Tryd.sizeOf32 (by kernel_rfl) H) (fun x13 H => ?_)
      refine ls_p (d := some 14) (by kernel_rfl) (by rw [hb]; kernel_rfl) (p_lit (pl := [(0, 1), (1, 3)]) Tryd.zeroValue32 Tryd.underlying32 ⟨(by kernel_rfl), Tryd.sizeOf21, (by kernel_rfl), Tryd.sizeOf30, trivial⟩ (by kernel_rfl) (by kernel_rfl) H) (fun x14 H => ?_)
      refine ls_p (d := some 15) (by kernel_rfl) (by rw [hb]; kernel_rfl) (p_eqlAgg (eqT_32) (by kernel_rfl) (by kernel_rfl) H) (fun x15 H => ?_)
      refine ls_pick_t (x := x15) (by kernel_rfl) (by rw [hb]; kernel_rfl) (by kernel_rfl) ?_
      refine ls_nil ?_
      refine then_normal ?_
      exact ⟨(fun i => ([x0, x3, x11, x12, x13, x14, x15]).getD i undef), x15, by kernel_rfl, HA, H⟩
    · refine ls_skip (d := some 9) (by kernel_rfl) (by rw [hb]; kernel_rfl) ?_
      refine ls_skip (d := some 10) (by kernel_rfl) (by rw [hb]; kernel_rfl) ?_
      refine ls_skip (d := some 11) (by kernel_rfl) (by rw [hb]; kernel_rfl) ?_
      refine ls_fr (b := ⟨#[x0, undef, (.slice none 0 0), x3, x0, x5, x3, x7, x7, undef, undef, undef, (D 6), (D 7), (D 8), (D 9), (D 10), (D 11), (D 12), undef, undef, undef], []⟩) (by kernel_rfl) ?_
      refine ls_skip (d := some 12) (by kernel_rfl) (by rw [hb]; kernel_rfl) ?_
      refine ls_skip (d := some 13) (by kernel_rfl) (by rw [hb]; kernel_rfl) ?_
      refine ls_skip (d := some 14) (by kernel_rfl) (by rw [hb]; kernel_rfl) ?_
      refine ls_skip (d := some 15) (by kernel_rfl) (by rw [hb]; kernel_rfl) ?_
      refine ls_pick_f (y := (.bool false)) (by kernel_rfl) (by rw [hb]; kernel_rfl) (by kernel_rfl) ?_
      refine ls_nil ?_
      refine then_normal ?_
      exact ⟨(fun i => ([undef, undef, undef, undef, undef, undef, undef]).getD i undef), (.bool false), by kernel_rfl, HA, H⟩
    · rintro _ w_1 ⟨D_1, x16, rfl, HA_1, H⟩
      refine ls_nil ?_
      refine then_normal ?_
      refine fr_eq (b := ⟨#[x0, undef, (.slice none 0 0), x3, x0, x5, x3, x7, x7, (D_1 0), (D_1 1), (D_1 2), (D_1 3), (D_1 4), (D_1 5), (D_1 6), x16, (D 11), (D 12), undef, undef, undef], []⟩) (by kernel_rfl) ?_
      refine wp_if rfl H (fun H => ?_) (fun H => ?_)
      · refine wp_skip ?_
        refine then_normal ?_
        refine fr_eq (b := ⟨#[x0, undef, (.slice none 0 0), x3, x0, x5, x3, x7, x7, (D_1 0), (D_1 1), (D_1 2), (D_1 3), (D_1 4), (D_1 5), (D_1 6), x16, (D 11), (D 12), undef, undef, undef], []⟩) (by kernel_rfl) ?_
        refine wp_block ?_
        refine lwp_list ?_
        refine ls_move (x := x3) (by kernel_rfl) (by kernel_rfl) ?_
        refine ls_p (d := some 18) (by kernel_rfl) (by kernel_rfl) (p_sub (by kernel_rfl) (by kernel_rfl) H) (fun x18 H => ?_)
        refine ls_assign (x := x18) (by kernel_rfl) (by kernel_rfl) ?_
        refine ls_nil ?_
        refine block_normal ?_
        exact ⟨⟨(fun i => ([x3, x7, x7, (D_1 0), (D_1 1), (D_1 2), (D_1 3), (D_1 4), (D_1 5), (D_1 6), x16, x3, x18]).getD i undef), x18, h, by kernel_rfl, HA_1, H.1⟩, loop_lt HA_1.heap HA.heap (by kernel_rfl) (by kernel_rfl) H.2⟩
      · refine wp_exit ?_
        refine then_exit ?_
        refine then_exit ?_
        refine block_exit ?_
        refine then_normal ?_
        refine fr_eq (b := ⟨#[x0, undef, (.slice none 0 0), x3, x0, x5, x3, x7, x7, (D_1 0), (D_1 1), (D_1 2), (D_1 3), (D_1 4), (D_1 5), (D_1 6), x16, (D 11), (D 12), undef, undef, undef], []⟩) (by kernel_rfl) ?_
        refine wp_seq ?_
        refine lwp_list ?_
        refine ls_move (x := x0) (by kernel_rfl) (by kernel_rfl) ?_
        refine ls_move (x := x3) (by kernel_rfl) (by kernel_rfl) ?_
        refine ls_p (d := some 21) (by kernel_rfl) (by kernel_rfl) (p_sl Tryd.underlying22 Tryd.sizeOf32 (by kernel_rfl) (by kernel_rfl) (by kernel_rfl) H) (fun x21 H => ?_)
        refine ls_assign (x := x21) (by kernel_rfl) (by kernel_rfl) ?_
        refine ls_nil ?_
        refine then_normal ?_
        refine fr_eq (b := ⟨#[x0, undef, x21, x3, x0, x5, x3, x7, x7, (D_1 0), (D_1 1), (D_1 2), (D_1 3), (D_1 4), (D_1 5), (D_1 6), x16, (D 11), (D 12), x0, x3, x21], []⟩) (by kernel_rfl) ?_
        refine wp_ret ?_
        exact end1 (Tryd.results16) (by kernel_rfl) (by kernel_rfl) HA_1 H _ (.inr rfl)

end Go.Proofs.YtjlpgakoedigoaaDoor
