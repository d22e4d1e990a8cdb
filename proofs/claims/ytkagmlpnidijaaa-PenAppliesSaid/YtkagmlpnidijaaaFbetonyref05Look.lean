/- The shallow reading of one function, and that the function does it. Written by a program. -/
import Derived.Test.YtkagmlpnidijaaaFnC
set_option linter.unusedVariables false
namespace Go.Proofs.Ytkagmlpnidijaaa
open Go Go.HW

def betonyref05_Look_j1 (R : Value → Heap → Prop) (x29 x5 : Value) (h_3 : Heap) : Prop :=
  sRem .i64 x29 (.int .i64 2) fun x59 =>
  sMul .i64 (.int .i64 170) x59 fun x60 =>
  sAdd .i64 x60 x5 fun x62 =>
  sQuo .i64 x29 (.int .i64 2) fun x64 =>
  sRem .i64 x64 (.int .i64 2) fun x65 =>
  sMul .i64 (.int .i64 170) x65 fun x66 =>
  sAdd .i64 x66 x5 fun x68 =>
  sQuo .i64 x29 (.int .i64 4) fun x70 =>
  sRem .i64 x70 (.int .i64 2) fun x71 =>
  sMul .i64 (.int .i64 170) x71 fun x72 =>
  sAdd .i64 x72 x5 fun x74 =>
  sSlit h_3 #[.int .i64 0, .int .i64 0, .int .i64 0] [(0, 1, x62), (1, 1, x68), (2, 1, x74)] 3 3 fun x75 h_4 => 
  R x75 h_4
def betonyref05_Look_S (x0 : Value) (h : Heap) (R : Value → Heap → Prop) : Prop :=
  sGe x0 (.int .i64 16777216) fun x7 =>
  sAnd x7 (fun k_1 =>
  sLe x0 (.int .i64 33554431) fun x10 =>
  k_1 x10) fun x11 =>
  sIf x11 (sSub .i64 x0 (.int .i64 16777216) fun x13 =>
  sQuo .i64 x13 (.int .i64 65536) fun x15 =>
  sQuo .i64 x13 (.int .i64 256) fun x17 =>
  sRem .i64 x17 (.int .i64 256) fun x18 =>
  sRem .i64 x13 (.int .i64 256) fun x20 =>
  sSlit h #[.int .i64 0, .int .i64 0, .int .i64 0] [(0, 1, x15), (1, 1, x18), (2, 1, x20)] 3 3 fun x21 h => 
  R x21 h) (sLt x0 (.int .i64 1) fun x23 =>
  sOr x23 (fun k =>
  sGt x0 (.int .i64 256) fun x26 =>
  k x26) fun x27 =>
  sIf x27 (R (.slice none 0 0) h) (sSub .i64 x0 (.int .i64 1) fun x29 =>
  sGe x29 (.int .i64 232) fun x31 =>
  sIf x31 (sSub .i64 x29 (.int .i64 232) fun x33 =>
  sMul .i64 (.int .i64 10) x33 fun x34 =>
  sAdd .i64 (.int .i64 8) x34 fun x35 =>
  sSlit h #[.int .i64 0, .int .i64 0, .int .i64 0] [(0, 1, x35), (1, 1, x35), (2, 1, x35)] 3 3 fun x39 h_1 => 
  R x39 h_1) (sGe x29 (.int .i64 16) fun x41 =>
  sIf x41 (sSub .i64 x29 (.int .i64 16) fun x43 =>
  sQuo .i64 x43 (.int .i64 36) fun x44 =>
  sMul .i64 (.int .i64 51) x44 fun x45 =>
  sSub .i64 x29 (.int .i64 16) fun x47 =>
  sQuo .i64 x47 (.int .i64 6) fun x48 =>
  sRem .i64 x48 (.int .i64 6) fun x49 =>
  sMul .i64 (.int .i64 51) x49 fun x50 =>
  sSub .i64 x29 (.int .i64 16) fun x52 =>
  sRem .i64 x52 (.int .i64 6) fun x53 =>
  sMul .i64 (.int .i64 51) x53 fun x54 =>
  sSlit h #[.int .i64 0, .int .i64 0, .int .i64 0] [(0, 1, x45), (1, 1, x50), (2, 1, x54)] 3 3 fun x55 h_2 => 
  R x55 h_2) (sGe x29 (.int .i64 8) fun x57 =>
  sIf x57 (betonyref05_Look_j1 R x29 (.int .i64 85) h) (betonyref05_Look_j1 R x29 (.int .i64 0) h)))))
set_option maxRecDepth 100000 in
theorem betonyref05_Look_runs {x0 : Value} {h : Heap} {R : Value → Heap → Prop} (H : betonyref05_Look_S x0 h R) : betonyref05_Look_c x0 h R := by
  unfold betonyref05_Look_S at H
  refine runs_of (b := ⟨([x0, undef, undef, undef, undef, undef, undef, undef, undef, undef, undef, undef, undef, undef, undef, undef, undef, undef, undef, undef, undef, undef, undef, undef, undef, undef, undef, undef, undef, undef, undef, undef, undef, undef, undef, undef, undef, undef, undef, undef, undef, undef, undef, undef, undef, undef, undef, undef, undef, undef] ++ [undef, undef, undef, undef, undef, undef, undef, undef, undef, undef, undef, undef, undef, undef, undef, undef, undef, undef, undef, undef, undef, undef, undef, undef, undef, undef]).toArray, []⟩) Try.call43 Try.func43 rfl (by kernel_rfl) (fun w0 HA => ?_)
  refine wp_seq ?_
  refine lwp_list ?_
  refine ls_assign (x := (.slice none 0 0)) (by kernel_rfl) (by kernel_rfl) ?_
  refine ls_nil ?_
  refine then_normal ?_
  refine fr_eq (b := ⟨([x0, undef, (.slice none 0 0), undef, undef, undef, undef, undef, undef, undef, undef, undef, undef, undef, undef, undef, undef, undef, undef, undef, undef, undef, undef, undef, undef, undef, undef, undef, undef, undef, undef, undef, undef, undef, undef, undef, undef, undef, undef, undef, undef, undef, undef, undef, undef, undef, undef, undef, undef, undef] ++ [undef, undef, undef, undef, undef, undef, undef, undef, undef, undef, undef, undef, undef, undef, undef, undef, undef, undef, undef, undef, undef, undef, undef, undef, undef, undef]).toArray, []⟩) (by kernel_rfl) ?_
  refine wp_seq ?_
  refine wp_seq ?_
  refine lwp_list ?_
  refine ls_move (x := x0) (by kernel_rfl) (by kernel_rfl) ?_
  refine ls_p (d := some 7) (by kernel_rfl) (by kernel_rfl) (p_sGe (by kernel_rfl) (by kernel_rfl) H) (fun x7 H => ?_)
  refine ls_move (x := x7) (by kernel_rfl) (by kernel_rfl) ?_
  refine ls_and [(), (), ()] (fun K a w => ∃ (D : Nat → Value) (x11 : Value), a = ⟨([x0, undef, (.slice none 0 0), undef, undef, undef, x0, x7, x7, (D 0), (D 1), x11, undef, undef, undef, undef, undef, undef, undef, undef, undef, undef, undef, undef, undef, undef, undef, undef, undef, undef, undef, undef, undef, undef, undef, undef, undef, undef, undef, undef, undef, undef, undef, undef, undef, undef, undef, undef, undef, undef] ++ [undef, undef, undef, undef, undef, undef, undef, undef, undef, undef, undef, undef, undef, undef, undef, undef, undef, undef, undef, undef, undef, undef, undef, undef, undef, undef]).toArray, []⟩ ∧ At w0 w h ∧ K x11) H (fun hb_1 H => ?_) (fun hb_1 H => ?_) ?_
  · refine ls_move (x := x0) (by rw [hb_1]; kernel_rfl) (by kernel_rfl) ?_
    refine ls_p (d := some 10) (by kernel_rfl) (by rw [hb_1]; kernel_rfl) (p_sLe (by kernel_rfl) (by kernel_rfl) H) (fun x10 H => ?_)
    refine ls_pick_t (x := x10) (by kernel_rfl) (by rw [hb_1]; kernel_rfl) (by kernel_rfl) ?_
    refine ls_nil ?_
    refine then_normal ?_
    exact ⟨(fun i => ([x0, x10]).getD i undef), x10, by kernel_rfl, HA, H⟩
  · refine ls_skip (d := some 9) (by kernel_rfl) (by rw [hb_1]; kernel_rfl) ?_
    refine ls_skip (d := some 10) (by kernel_rfl) (by rw [hb_1]; kernel_rfl) ?_
    refine ls_pick_f (y := (.bool false)) (by kernel_rfl) (by rw [hb_1]; kernel_rfl) (by kernel_rfl) ?_
    refine ls_nil ?_
    refine then_normal ?_
    exact ⟨(fun i => ([undef, undef]).getD i undef), (.bool false), by kernel_rfl, HA, H⟩
  · rintro _ w ⟨D, x11, rfl, HA, H⟩
    refine ls_nil ?_
    refine then_normal ?_
    refine fr_eq (b := ⟨([x0, undef, (.slice none 0 0), undef, undef, undef, x0, x7, x7, (D 0), (D 1), x11, undef, undef, undef, undef, undef, undef, undef, undef, undef, undef, undef, undef, undef, undef, undef, undef, undef, undef, undef, undef, undef, undef, undef, undef, undef, undef, undef, undef, undef, undef, undef, undef, undef, undef, undef, undef, undef, undef] ++ [undef, undef, undef, undef, undef, undef, undef, undef, undef, undef, undef, undef, undef, undef, undef, undef, undef, undef, undef, undef, undef, undef, undef, undef, undef, undef]).toArray, []⟩) (by kernel_rfl) ?_
    refine wp_if rfl H (fun H => ?_) (fun H => ?_)
    · refine wp_seq ?_
      refine lwp_list ?_
      refine ls_move (x := x0) (by kernel_rfl) (by kernel_rfl) ?_
      refine ls_p (d := some 13) (by kernel_rfl) (by kernel_rfl) (p_sub (by kernel_rfl) (by kernel_rfl) H) (fun x13 H => ?_)
      refine ls_assign (x := x13) (by kernel_rfl) (by kernel_rfl) ?_
      refine ls_nil ?_
      refine then_normal ?_
      refine fr_eq (b := ⟨([x13, undef, (.slice none 0 0), undef, undef, undef, x0, x7, x7, (D 0), (D 1), x11, x0, x13, undef, undef, undef, undef, undef, undef, undef, undef, undef, undef, undef, undef, undef, undef, undef, undef, undef, undef, undef, undef, undef, undef, undef, undef, undef, undef, undef, undef, undef, undef, undef, undef, undef, undef, undef, undef] ++ [undef, undef, undef, undef, undef, undef, undef, undef, undef, undef, undef, undef, undef, undef, undef, undef, undef, undef, undef, undef, undef, undef, undef, undef, undef, undef]).toArray, []⟩) (by kernel_rfl) ?_
      refine wp_seq ?_
      refine lwp_list ?_
      refine ls_move (x := x13) (by kernel_rfl) (by kernel_rfl) ?_
      refine ls_p (d := some 15) (by kernel_rfl) (by kernel_rfl) (p_quo (by kernel_rfl) (by kernel_rfl) H) (fun x15 H => ?_)
      refine ls_move (x := x13) (by kernel_rfl) (by kernel_rfl) ?_
      refine ls_p (d := some 17) (by kernel_rfl) (by kernel_rfl) (p_quo (by kernel_rfl) (by kernel_rfl) H) (fun x17 H => ?_)
      refine ls_p (d := some 18) (by kernel_rfl) (by kernel_rfl) (p_rem (by kernel_rfl) (by kernel_rfl) H) (fun x18 H => ?_)
      refine ls_move (x := x13) (by kernel_rfl) (by kernel_rfl) ?_
      refine ls_fr (b := ⟨([x13, undef, (.slice none 0 0), undef, undef, undef, x0, x7, x7, (D 0), (D 1), x11, x0, x13, x13, x15, x13, x17, x18, x13, undef, undef, undef, undef, undef, undef, undef, undef, undef, undef, undef, undef, undef, undef, undef, undef, undef, undef, undef, undef, undef, undef, undef, undef, undef, undef, undef, undef, undef, undef] ++ [undef, undef, undef, undef, undef, undef, undef, undef, undef, undef, undef, undef, undef, undef, undef, undef, undef, undef, undef, undef, undef, undef, undef, undef, undef, undef]).toArray, []⟩) (by kernel_rfl) ?_
      refine ls_p (d := some 20) (by kernel_rfl) (by kernel_rfl) (p_rem (by kernel_rfl) (by kernel_rfl) H) (fun x20 H => ?_)
      refine ls_d (d := some 21) (by kernel_rfl) (by kernel_rfl) HA (d_slit (zc := #[.int .i64 0]) Try.underlying24 Try.sizeOf3 (by decide) (.inr ⟨by decide, _, Try.zeroValue3, (by kernel_rfl)⟩) (by kernel_rfl) (by kernel_rfl) H) (fun x21 h w_1 H HA_1 => ?_)
      refine ls_assign (x := x21) (by kernel_rfl) (by kernel_rfl) ?_
      refine ls_nil ?_
      refine then_normal ?_
      refine fr_eq (b := ⟨([x13, undef, x21, undef, undef, undef, x0, x7, x7, (D 0), (D 1), x11, x0, x13, x13, x15, x13, x17, x18, x13, x20, x21, undef, undef, undef, undef, undef, undef, undef, undef, undef, undef, undef, undef, undef, undef, undef, undef, undef, undef, undef, undef, undef, undef, undef, undef, undef, undef, undef, undef] ++ [undef, undef, undef, undef, undef, undef, undef, undef, undef, undef, undef, undef, undef, undef, undef, undef, undef, undef, undef, undef, undef, undef, undef, undef, undef, undef]).toArray, []⟩) (by kernel_rfl) ?_
      refine wp_ret ?_
      refine then_ret ?_
      exact end1 (Try.results43) (by kernel_rfl) (by kernel_rfl) HA_1 H _ (.inr rfl)
    · refine wp_skip ?_
      refine then_normal ?_
      refine fr_eq (b := ⟨([x0, undef, (.slice none 0 0), undef, undef, undef, x0, x7, x7, (D 0), (D 1), x11, undef, undef, undef, undef, undef, undef, undef, undef, undef, undef, undef, undef, undef, undef, undef, undef, undef, undef, undef, undef, undef, undef, undef, undef, undef, undef, undef, undef, undef, undef, undef, undef, undef, undef, undef, undef, undef, undef] ++ [undef, undef, undef, undef, undef, undef, undef, undef, undef, undef, undef, undef, undef, undef, undef, undef, undef, undef, undef, undef, undef, undef, undef, undef, undef, undef]).toArray, []⟩) (by kernel_rfl) ?_
      refine wp_seq ?_
      refine wp_seq ?_
      refine lwp_list ?_
      refine ls_move (x := x0) (by kernel_rfl) (by kernel_rfl) ?_
      refine ls_p (d := some 23) (by kernel_rfl) (by kernel_rfl) (p_sLt (by kernel_rfl) (by kernel_rfl) H) (fun x23 H => ?_)
      refine ls_move (x := x23) (by kernel_rfl) (by kernel_rfl) ?_
      refine ls_or [(), (), ()] (fun K a w => ∃ (D_1 : Nat → Value) (x27 : Value), a = ⟨([x0, undef, (.slice none 0 0), undef, undef, undef, x0, x7, x7, (D 0), (D 1), x11, undef, undef, undef, undef, undef, undef, undef, undef, undef, undef, x0, x23, x23, (D_1 0), (D_1 1), x27, undef, undef, undef, undef, undef, undef, undef, undef, undef, undef, undef, undef, undef, undef, undef, undef, undef, undef, undef, undef, undef, undef] ++ [undef, undef, undef, undef, undef, undef, undef, undef, undef, undef, undef, undef, undef, undef, undef, undef, undef, undef, undef, undef, undef, undef, undef, undef, undef, undef]).toArray, []⟩ ∧ At w0 w h ∧ K x27) H (fun hb H => ?_) (fun hb H => ?_) ?_
      · refine ls_move (x := x0) (by rw [hb]; kernel_rfl) (by kernel_rfl) ?_
        refine ls_p (d := some 26) (by kernel_rfl) (by rw [hb]; kernel_rfl) (p_sGt (by kernel_rfl) (by kernel_rfl) H) (fun x26 H => ?_)
        refine ls_pick_f (y := x26) (by kernel_rfl) (by rw [hb]; kernel_rfl) (by kernel_rfl) ?_
        refine ls_nil ?_
        refine then_normal ?_
        exact ⟨(fun i => ([x0, x26]).getD i undef), x26, by kernel_rfl, HA, H⟩
      · refine ls_skip (d := some 25) (by kernel_rfl) (by rw [hb]; kernel_rfl) ?_
        refine ls_skip (d := some 26) (by kernel_rfl) (by rw [hb]; kernel_rfl) ?_
        refine ls_pick_t (x := (.bool true)) (by kernel_rfl) (by rw [hb]; kernel_rfl) (by kernel_rfl) ?_
        refine ls_nil ?_
        refine then_normal ?_
        exact ⟨(fun i => ([undef, undef]).getD i undef), (.bool true), by kernel_rfl, HA, H⟩
      · rintro _ w_2 ⟨D_1, x27, rfl, HA_2, H⟩
        refine ls_nil ?_
        refine then_normal ?_
        refine fr_eq (b := ⟨([x0, undef, (.slice none 0 0), undef, undef, undef, x0, x7, x7, (D 0), (D 1), x11, undef, undef, undef, undef, undef, undef, undef, undef, undef, undef, x0, x23, x23, (D_1 0), (D_1 1), x27, undef, undef, undef, undef, undef, undef, undef, undef, undef, undef, undef, undef, undef, undef, undef, undef, undef, undef, undef, undef, undef, undef] ++ [undef, undef, undef, undef, undef, undef, undef, undef, undef, undef, undef, undef, undef, undef, undef, undef, undef, undef, undef, undef, undef, undef, undef, undef, undef, undef]).toArray, []⟩) (by kernel_rfl) ?_
        refine wp_if rfl H (fun H => ?_) (fun H => ?_)
        · refine wp_seq ?_
          refine lwp_list ?_
          refine ls_assign (x := (.slice none 0 0)) (by kernel_rfl) (by kernel_rfl) ?_
          refine ls_nil ?_
          refine then_normal ?_
          refine fr_eq (b := ⟨([x0, undef, (.slice none 0 0), undef, undef, undef, x0, x7, x7, (D 0), (D 1), x11, undef, undef, undef, undef, undef, undef, undef, undef, undef, undef, x0, x23, x23, (D_1 0), (D_1 1), x27, undef, undef, undef, undef, undef, undef, undef, undef, undef, undef, undef, undef, undef, undef, undef, undef, undef, undef, undef, undef, undef, undef] ++ [undef, undef, undef, undef, undef, undef, undef, undef, undef, undef, undef, undef, undef, undef, undef, undef, undef, undef, undef, undef, undef, undef, undef, undef, undef, undef]).toArray, []⟩) (by kernel_rfl) ?_
          refine wp_ret ?_
          refine then_ret ?_
          exact end1 (Try.results43) (by kernel_rfl) (by kernel_rfl) HA_2 H _ (.inr rfl)
        · refine wp_skip ?_
          refine then_normal ?_
          refine fr_eq (b := ⟨([x0, undef, (.slice none 0 0), undef, undef, undef, x0, x7, x7, (D 0), (D 1), x11, undef, undef, undef, undef, undef, undef, undef, undef, undef, undef, x0, x23, x23, (D_1 0), (D_1 1), x27, undef, undef, undef, undef, undef, undef, undef, undef, undef, undef, undef, undef, undef, undef, undef, undef, undef, undef, undef, undef, undef, undef] ++ [undef, undef, undef, undef, undef, undef, undef, undef, undef, undef, undef, undef, undef, undef, undef, undef, undef, undef, undef, undef, undef, undef, undef, undef, undef, undef]).toArray, []⟩) (by kernel_rfl) ?_
          refine wp_seq ?_
          refine lwp_list ?_
          refine ls_move (x := x0) (by kernel_rfl) (by kernel_rfl) ?_
          refine ls_p (d := some 29) (by kernel_rfl) (by kernel_rfl) (p_sub (by kernel_rfl) (by kernel_rfl) H) (fun x29 H => ?_)
          refine ls_assign (x := x29) (by kernel_rfl) (by kernel_rfl) ?_
          refine ls_nil ?_
          refine then_normal ?_
          refine fr_eq (b := ⟨([x0, undef, (.slice none 0 0), x29, undef, undef, x0, x7, x7, (D 0), (D 1), x11, undef, undef, undef, undef, undef, undef, undef, undef, undef, undef, x0, x23, x23, (D_1 0), (D_1 1), x27, x0, x29, undef, undef, undef, undef, undef, undef, undef, undef, undef, undef, undef, undef, undef, undef, undef, undef, undef, undef, undef, undef] ++ [undef, undef, undef, undef, undef, undef, undef, undef, undef, undef, undef, undef, undef, undef, undef, undef, undef, undef, undef, undef, undef, undef, undef, undef, undef, undef]).toArray, []⟩) (by kernel_rfl) ?_
          refine wp_seq ?_
          refine wp_seq ?_
          refine lwp_list ?_
          refine ls_move (x := x29) (by kernel_rfl) (by kernel_rfl) ?_
          refine ls_p (d := some 31) (by kernel_rfl) (by kernel_rfl) (p_sGe (by kernel_rfl) (by kernel_rfl) H) (fun x31 H => ?_)
          refine ls_nil ?_
          refine then_normal ?_
          refine fr_eq (b := ⟨([x0, undef, (.slice none 0 0), x29, undef, undef, x0, x7, x7, (D 0), (D 1), x11, undef, undef, undef, undef, undef, undef, undef, undef, undef, undef, x0, x23, x23, (D_1 0), (D_1 1), x27, x0, x29, x29, x31, undef, undef, undef, undef, undef, undef, undef, undef, undef, undef, undef, undef, undef, undef, undef, undef, undef, undef] ++ [undef, undef, undef, undef, undef, undef, undef, undef, undef, undef, undef, undef, undef, undef, undef, undef, undef, undef, undef, undef, undef, undef, undef, undef, undef, undef]).toArray, []⟩) (by kernel_rfl) ?_
          refine wp_if rfl H (fun H => ?_) (fun H => ?_)
          · refine wp_seq ?_
            refine lwp_list ?_
            refine ls_move (x := x29) (by kernel_rfl) (by kernel_rfl) ?_
            refine ls_p (d := some 33) (by kernel_rfl) (by kernel_rfl) (p_sub (by kernel_rfl) (by kernel_rfl) H) (fun x33 H => ?_)
            refine ls_p (d := some 34) (by kernel_rfl) (by kernel_rfl) (p_mul (by kernel_rfl) (by kernel_rfl) H) (fun x34 H => ?_)
            refine ls_p (d := some 35) (by kernel_rfl) (by kernel_rfl) (p_add (by kernel_rfl) (by kernel_rfl) H) (fun x35 H => ?_)
            refine ls_assign (x := x35) (by kernel_rfl) (by kernel_rfl) ?_
            refine ls_nil ?_
            refine then_normal ?_
            refine fr_eq (b := ⟨([x0, undef, (.slice none 0 0), x29, x35, undef, x0, x7, x7, (D 0), (D 1), x11, undef, undef, undef, undef, undef, undef, undef, undef, undef, undef, x0, x23, x23, (D_1 0), (D_1 1), x27, x0, x29, x29, x31, x29, x33, x34, x35, undef, undef, undef, undef, undef, undef, undef, undef, undef, undef, undef, undef, undef, undef] ++ [undef, undef, undef, undef, undef, undef, undef, undef, undef, undef, undef, undef, undef, undef, undef, undef, undef, undef, undef, undef, undef, undef, undef, undef, undef, undef]).toArray, []⟩) (by kernel_rfl) ?_
            refine wp_seq ?_
            refine lwp_list ?_
            refine ls_move (x := x35) (by kernel_rfl) (by kernel_rfl) ?_
            refine ls_move (x := x35) (by kernel_rfl) (by kernel_rfl) ?_
            refine ls_move (x := x35) (by kernel_rfl) (by kernel_rfl) ?_
            refine ls_d (d := some 39) (by kernel_rfl) (by kernel_rfl) HA_2 (d_slit (zc := #[.int .i64 0]) Try.underlying24 Try.sizeOf3 (by decide) (.inr ⟨by decide, _, Try.zeroValue3, (by kernel_rfl)⟩) (by kernel_rfl) (by kernel_rfl) H) (fun x39 h_1 w_3 H HA_3 => ?_)
            refine ls_assign (x := x39) (by kernel_rfl) (by kernel_rfl) ?_
            refine ls_nil ?_
            refine then_normal ?_
            refine fr_eq (b := ⟨([x0, undef, x39, x29, x35, undef, x0, x7, x7, (D 0), (D 1), x11, undef, undef, undef, undef, undef, undef, undef, undef, undef, undef, x0, x23, x23, (D_1 0), (D_1 1), x27, x0, x29, x29, x31, x29, x33, x34, x35, x35, x35, x35, x39, undef, undef, undef, undef, undef, undef, undef, undef, undef, undef] ++ [undef, undef, undef, undef, undef, undef, undef, undef, undef, undef, undef, undef, undef, undef, undef, undef, undef, undef, undef, undef, undef, undef, undef, undef, undef, undef]).toArray, []⟩) (by kernel_rfl) ?_
            refine wp_ret ?_
            refine then_ret ?_
            exact end1 (Try.results43) (by kernel_rfl) (by kernel_rfl) HA_3 H _ (.inr rfl)
          · refine wp_skip ?_
            refine then_normal ?_
            refine fr_eq (b := ⟨([x0, undef, (.slice none 0 0), x29, undef, undef, x0, x7, x7, (D 0), (D 1), x11, undef, undef, undef, undef, undef, undef, undef, undef, undef, undef, x0, x23, x23, (D_1 0), (D_1 1), x27, x0, x29, x29, x31, undef, undef, undef, undef, undef, undef, undef, undef, undef, undef, undef, undef, undef, undef, undef, undef, undef, undef] ++ [undef, undef, undef, undef, undef, undef, undef, undef, undef, undef, undef, undef, undef, undef, undef, undef, undef, undef, undef, undef, undef, undef, undef, undef, undef, undef]).toArray, []⟩) (by kernel_rfl) ?_
            refine wp_seq ?_
            refine wp_seq ?_
            refine lwp_list ?_
            refine ls_move (x := x29) (by kernel_rfl) (by kernel_rfl) ?_
            refine ls_p (d := some 41) (by kernel_rfl) (by kernel_rfl) (p_sGe (by kernel_rfl) (by kernel_rfl) H) (fun x41 H => ?_)
            refine ls_nil ?_
            refine then_normal ?_
            refine fr_eq (b := ⟨([x0, undef, (.slice none 0 0), x29, undef, undef, x0, x7, x7, (D 0), (D 1), x11, undef, undef, undef, undef, undef, undef, undef, undef, undef, undef, x0, x23, x23, (D_1 0), (D_1 1), x27, x0, x29, x29, x31, undef, undef, undef, undef, undef, undef, undef, undef, x29, x41, undef, undef, undef, undef, undef, undef, undef, undef] ++ [undef, undef, undef, undef, undef, undef, undef, undef, undef, undef, undef, undef, undef, undef, undef, undef, undef, undef, undef, undef, undef, undef, undef, undef, undef, undef]).toArray, []⟩) (by kernel_rfl) ?_
            refine wp_if rfl H (fun H => ?_) (fun H => ?_)
            · refine wp_seq ?_
              refine lwp_list ?_
              refine ls_move (x := x29) (by kernel_rfl) (by kernel_rfl) ?_
              refine ls_p (d := some 43) (by kernel_rfl) (by kernel_rfl) (p_sub (by kernel_rfl) (by kernel_rfl) H) (fun x43 H => ?_)
              refine ls_p (d := some 44) (by kernel_rfl) (by kernel_rfl) (p_quo (by kernel_rfl) (by kernel_rfl) H) (fun x44 H => ?_)
              refine ls_p (d := some 45) (by kernel_rfl) (by kernel_rfl) (p_mul (by kernel_rfl) (by kernel_rfl) H) (fun x45 H => ?_)
              refine ls_move (x := x29) (by kernel_rfl) (by kernel_rfl) ?_
              refine ls_p (d := some 47) (by kernel_rfl) (by kernel_rfl) (p_sub (by kernel_rfl) (by kernel_rfl) H) (fun x47 H => ?_)
              refine ls_fr (b := ⟨([x0, undef, (.slice none 0 0), x29, undef, undef, x0, x7, x7, (D 0), (D 1), x11, undef, undef, undef, undef, undef, undef, undef, undef, undef, undef, x0, x23, x23, (D_1 0), (D_1 1), x27, x0, x29, x29, x31, undef, undef, undef, undef, undef, undef, undef, undef, x29, x41, x29, x43, x44, x45, x29, x47, undef, undef] ++ [undef, undef, undef, undef, undef, undef, undef, undef, undef, undef, undef, undef, undef, undef, undef, undef, undef, undef, undef, undef, undef, undef, undef, undef, undef, undef]).toArray, []⟩) (by kernel_rfl) ?_
              refine ls_p (d := some 48) (by kernel_rfl) (by kernel_rfl) (p_quo (by kernel_rfl) (by kernel_rfl) H) (fun x48 H => ?_)
              refine ls_p (d := some 49) (by kernel_rfl) (by kernel_rfl) (p_rem (by kernel_rfl) (by kernel_rfl) H) (fun x49 H => ?_)
              refine ls_p (d := some 50) (by kernel_rfl) (by kernel_rfl) (p_mul (by kernel_rfl) (by kernel_rfl) H) (fun x50 H => ?_)
              refine ls_move (x := x29) (by kernel_rfl) (by kernel_rfl) ?_
              refine ls_p (d := some 52) (by kernel_rfl) (by kernel_rfl) (p_sub (by kernel_rfl) (by kernel_rfl) H) (fun x52 H => ?_)
              refine ls_p (d := some 53) (by kernel_rfl) (by kernel_rfl) (p_rem (by kernel_rfl) (by kernel_rfl) H) (fun x53 H => ?_)
              refine ls_fr (b := ⟨([x0, undef, (.slice none 0 0), x29, undef, undef, x0, x7, x7, (D 0), (D 1), x11, undef, undef, undef, undef, undef, undef, undef, undef, undef, undef, x0, x23, x23, (D_1 0), (D_1 1), x27, x0, x29, x29, x31, undef, undef, undef, undef, undef, undef, undef, undef, x29, x41, x29, x43, x44, x45, x29, x47, x48, x49] ++ [x50, x29, x52, x53, undef, undef, undef, undef, undef, undef, undef, undef, undef, undef, undef, undef, undef, undef, undef, undef, undef, undef, undef, undef, undef, undef]).toArray, []⟩) (by kernel_rfl) ?_
              refine ls_p (d := some 54) (by kernel_rfl) (by kernel_rfl) (p_mul (by kernel_rfl) (by kernel_rfl) H) (fun x54 H => ?_)
              refine ls_d (d := some 55) (by kernel_rfl) (by kernel_rfl) HA_2 (d_slit (zc := #[.int .i64 0]) Try.underlying24 Try.sizeOf3 (by decide) (.inr ⟨by decide, _, Try.zeroValue3, (by kernel_rfl)⟩) (by kernel_rfl) (by kernel_rfl) H) (fun x55 h_2 w_4 H HA_4 => ?_)
              refine ls_assign (x := x55) (by kernel_rfl) (by kernel_rfl) ?_
              refine ls_nil ?_
              refine then_normal ?_
              refine fr_eq (b := ⟨([x0, undef, x55, x29, undef, undef, x0, x7, x7, (D 0), (D 1), x11, undef, undef, undef, undef, undef, undef, undef, undef, undef, undef, x0, x23, x23, (D_1 0), (D_1 1), x27, x0, x29, x29, x31, undef, undef, undef, undef, undef, undef, undef, undef, x29, x41, x29, x43, x44, x45, x29, x47, x48, x49] ++ [x50, x29, x52, x53, x54, x55, undef, undef, undef, undef, undef, undef, undef, undef, undef, undef, undef, undef, undef, undef, undef, undef, undef, undef, undef, undef]).toArray, []⟩) (by kernel_rfl) ?_
              refine wp_ret ?_
              refine then_ret ?_
              exact end1 (Try.results43) (by kernel_rfl) (by kernel_rfl) HA_4 H _ (.inr rfl)
            · refine wp_skip ?_
              refine then_normal ?_
              refine fr_eq (b := ⟨([x0, undef, (.slice none 0 0), x29, undef, undef, x0, x7, x7, (D 0), (D 1), x11, undef, undef, undef, undef, undef, undef, undef, undef, undef, undef, x0, x23, x23, (D_1 0), (D_1 1), x27, x0, x29, x29, x31, undef, undef, undef, undef, undef, undef, undef, undef, x29, x41, undef, undef, undef, undef, undef, undef, undef, undef] ++ [undef, undef, undef, undef, undef, undef, undef, undef, undef, undef, undef, undef, undef, undef, undef, undef, undef, undef, undef, undef, undef, undef, undef, undef, undef, undef]).toArray, []⟩) (by kernel_rfl) ?_
              refine wp_seq ?_
              refine lwp_list ?_
              refine ls_assign (x := (.int .i64 0)) (by kernel_rfl) (by kernel_rfl) ?_
              refine ls_nil ?_
              refine then_normal ?_
              refine fr_eq (b := ⟨([x0, undef, (.slice none 0 0), x29, undef, (.int .i64 0), x0, x7, x7, (D 0), (D 1), x11, undef, undef, undef, undef, undef, undef, undef, undef, undef, undef, x0, x23, x23, (D_1 0), (D_1 1), x27, x0, x29, x29, x31, undef, undef, undef, undef, undef, undef, undef, undef, x29, x41, undef, undef, undef, undef, undef, undef, undef, undef] ++ [undef, undef, undef, undef, undef, undef, undef, undef, undef, undef, undef, undef, undef, undef, undef, undef, undef, undef, undef, undef, undef, undef, undef, undef, undef, undef]).toArray, []⟩) (by kernel_rfl) ?_
              refine wp_seq ?_
              refine wp_seq ?_
              refine lwp_list ?_
              refine ls_move (x := x29) (by kernel_rfl) (by kernel_rfl) ?_
              refine ls_p (d := some 57) (by kernel_rfl) (by kernel_rfl) (p_sGe (by kernel_rfl) (by kernel_rfl) H) (fun x57 H => ?_)
              refine ls_nil ?_
              refine then_normal ?_
              refine fr_eq (b := ⟨([x0, undef, (.slice none 0 0), x29, undef, (.int .i64 0), x0, x7, x7, (D 0), (D 1), x11, undef, undef, undef, undef, undef, undef, undef, undef, undef, undef, x0, x23, x23, (D_1 0), (D_1 1), x27, x0, x29, x29, x31, undef, undef, undef, undef, undef, undef, undef, undef, x29, x41, undef, undef, undef, undef, undef, undef, undef, undef] ++ [undef, undef, undef, undef, undef, undef, x29, x57, undef, undef, undef, undef, undef, undef, undef, undef, undef, undef, undef, undef, undef, undef, undef, undef, undef, undef]).toArray, []⟩) (by kernel_rfl) ?_
              refine wp_join (fun a w => ∃ (D_2 : Nat → Value) (x5 : Value) (h_3 : Heap), a = ⟨([x0, undef, (.slice none 0 0), x29, undef, x5, x0, x7, x7, (D 0), (D 1), x11, undef, undef, undef, undef, undef, undef, undef, undef, undef, undef, x0, x23, x23, (D_1 0), (D_1 1), x27, x0, x29, x29, x31, undef, undef, undef, undef, undef, undef, undef, undef, x29, x41, undef, undef, undef, undef, undef, undef, undef, undef] ++ [undef, undef, undef, undef, undef, undef, x29, x57, undef, undef, undef, undef, undef, undef, undef, undef, undef, undef, undef, undef, undef, undef, undef, undef, undef, undef]).toArray, []⟩ ∧ At w0 w h_3 ∧ betonyref05_Look_j1 R x29 x5 h_3) ?_ ?_
              · refine wp_if rfl H (fun H => ?_) (fun H => ?_)
                · refine lwp_list ?_
                  refine ls_assign (x := (.int .i64 85)) (by kernel_rfl) (by kernel_rfl) ?_
                  refine ls_nil ?_
                  exact ⟨(fun i => ([]).getD i undef), (.int .i64 85), h, by kernel_rfl, HA_2, H⟩
                · refine wp_skip ?_
                  exact ⟨(fun i => ([]).getD i undef), (.int .i64 0), h, by kernel_rfl, HA_2, H⟩
              · rintro _ w_5 ⟨D_2, x5, h_3, rfl, HA_5, H⟩
                unfold betonyref05_Look_j1 at H
                refine then_normal ?_
                refine fr_eq (b := ⟨([x0, undef, (.slice none 0 0), x29, undef, x5, x0, x7, x7, (D 0), (D 1), x11, undef, undef, undef, undef, undef, undef, undef, undef, undef, undef, x0, x23, x23, (D_1 0), (D_1 1), x27, x0, x29, x29, x31, undef, undef, undef, undef, undef, undef, undef, undef, x29, x41, undef, undef, undef, undef, undef, undef, undef, undef] ++ [undef, undef, undef, undef, undef, undef, x29, x57, undef, undef, undef, undef, undef, undef, undef, undef, undef, undef, undef, undef, undef, undef, undef, undef, undef, undef]).toArray, []⟩) (by kernel_rfl) ?_
                refine wp_seq ?_
                refine lwp_list ?_
                refine ls_move (x := x29) (by kernel_rfl) (by kernel_rfl) ?_
                refine ls_p (d := some 59) (by kernel_rfl) (by kernel_rfl) (p_rem (by kernel_rfl) (by kernel_rfl) H) (fun x59 H => ?_)
                refine ls_p (d := some 60) (by kernel_rfl) (by kernel_rfl) (p_mul (by kernel_rfl) (by kernel_rfl) H) (fun x60 H => ?_)
                refine ls_move (x := x5) (by kernel_rfl) (by kernel_rfl) ?_
                refine ls_p (d := some 62) (by kernel_rfl) (by kernel_rfl) (p_add (by kernel_rfl) (by kernel_rfl) H) (fun x62 H => ?_)
                refine ls_move (x := x29) (by kernel_rfl) (by kernel_rfl) ?_
                refine ls_fr (b := ⟨([x0, undef, (.slice none 0 0), x29, undef, x5, x0, x7, x7, (D 0), (D 1), x11, undef, undef, undef, undef, undef, undef, undef, undef, undef, undef, x0, x23, x23, (D_1 0), (D_1 1), x27, x0, x29, x29, x31, undef, undef, undef, undef, undef, undef, undef, undef, x29, x41, undef, undef, undef, undef, undef, undef, undef, undef] ++ [undef, undef, undef, undef, undef, undef, x29, x57, x29, x59, x60, x5, x62, x29, undef, undef, undef, undef, undef, undef, undef, undef, undef, undef, undef, undef]).toArray, []⟩) (by kernel_rfl) ?_
                refine ls_p (d := some 64) (by kernel_rfl) (by kernel_rfl) (p_quo (by kernel_rfl) (by kernel_rfl) H) (fun x64 H => ?_)
                refine ls_p (d := some 65) (by kernel_rfl) (by kernel_rfl) (p_rem (by kernel_rfl) (by kernel_rfl) H) (fun x65 H => ?_)
                refine ls_p (d := some 66) (by kernel_rfl) (by kernel_rfl) (p_mul (by kernel_rfl) (by kernel_rfl) H) (fun x66 H => ?_)
                refine ls_move (x := x5) (by kernel_rfl) (by kernel_rfl) ?_
                refine ls_p (d := some 68) (by kernel_rfl) (by kernel_rfl) (p_add (by kernel_rfl) (by kernel_rfl) H) (fun x68 H => ?_)
                refine ls_move (x := x29) (by kernel_rfl) (by kernel_rfl) ?_
                refine ls_fr (b := ⟨([x0, undef, (.slice none 0 0), x29, undef, x5, x0, x7, x7, (D 0), (D 1), x11, undef, undef, undef, undef, undef, undef, undef, undef, undef, undef, x0, x23, x23, (D_1 0), (D_1 1), x27, x0, x29, x29, x31, undef, undef, undef, undef, undef, undef, undef, undef, x29, x41, undef, undef, undef, undef, undef, undef, undef, undef] ++ [undef, undef, undef, undef, undef, undef, x29, x57, x29, x59, x60, x5, x62, x29, x64, x65, x66, x5, x68, x29, undef, undef, undef, undef, undef, undef]).toArray, []⟩) (by kernel_rfl) ?_
                refine ls_p (d := some 70) (by kernel_rfl) (by kernel_rfl) (p_quo (by kernel_rfl) (by kernel_rfl) H) (fun x70 H => ?_)
                refine ls_p (d := some 71) (by kernel_rfl) (by kernel_rfl) (p_rem (by kernel_rfl) (by kernel_rfl) H) (fun x71 H => ?_)
                refine ls_p (d := some 72) (by kernel_rfl) (by kernel_rfl) (p_mul (by kernel_rfl) (by kernel_rfl) H) (fun x72 H => ?_)
                refine ls_move (x := x5) (by kernel_rfl) (by kernel_rfl) ?_
                refine ls_p (d := some 74) (by kernel_rfl) (by kernel_rfl) (p_add (by kernel_rfl) (by kernel_rfl) H) (fun x74 H => ?_)
                refine ls_d (d := some 75) (by kernel_rfl) (by kernel_rfl) HA_5 (d_slit (zc := #[.int .i64 0]) Try.underlying24 Try.sizeOf3 (by decide) (.inr ⟨by decide, _, Try.zeroValue3, (by kernel_rfl)⟩) (by kernel_rfl) (by kernel_rfl) H) (fun x75 h_4 w_6 H HA_6 => ?_)
                refine ls_fr (b := ⟨([x0, undef, (.slice none 0 0), x29, undef, x5, x0, x7, x7, (D 0), (D 1), x11, undef, undef, undef, undef, undef, undef, undef, undef, undef, undef, x0, x23, x23, (D_1 0), (D_1 1), x27, x0, x29, x29, x31, undef, undef, undef, undef, undef, undef, undef, undef, x29, x41, undef, undef, undef, undef, undef, undef, undef, undef] ++ [undef, undef, undef, undef, undef, undef, x29, x57, x29, x59, x60, x5, x62, x29, x64, x65, x66, x5, x68, x29, x70, x71, x72, x5, x74, x75]).toArray, []⟩) (by kernel_rfl) ?_
                refine ls_assign (x := x75) (by kernel_rfl) (by kernel_rfl) ?_
                refine ls_nil ?_
                refine then_normal ?_
                refine fr_eq (b := ⟨([x0, undef, x75, x29, undef, x5, x0, x7, x7, (D 0), (D 1), x11, undef, undef, undef, undef, undef, undef, undef, undef, undef, undef, x0, x23, x23, (D_1 0), (D_1 1), x27, x0, x29, x29, x31, undef, undef, undef, undef, undef, undef, undef, undef, x29, x41, undef, undef, undef, undef, undef, undef, undef, undef] ++ [undef, undef, undef, undef, undef, undef, x29, x57, x29, x59, x60, x5, x62, x29, x64, x65, x66, x5, x68, x29, x70, x71, x72, x5, x74, x75]).toArray, []⟩) (by kernel_rfl) ?_
                refine wp_ret ?_
                exact end1 (Try.results43) (by kernel_rfl) (by kernel_rfl) HA_6 H _ (.inr rfl)

end Go.Proofs.Ytkagmlpnidijaaa
