/- The shallow reading of one function, and that the function does it. Written by a program. -/
import Derived.Test.YtkagmlpnidijaaaFnC
set_option linter.unusedVariables false
namespace Go.Proofs.Ytkagmlpnidijaaa
open Go Go.HW

def betonylaw05_PenStays_l1 (R : Value → Heap → Prop) (x1 x2 x3 x7 : Value) (next : Value → Heap → Prop) (x8 : Value) (h_7 : Heap) : Prop :=
  sLen x1 fun x41 =>
  sLt x8 x41 fun x42 =>
  sIf x42 (sIxS x1 x8 1 fun x47 =>
  sLd h_7 x47 fun x48 =>
  sEq x48 (.int .i64 38) fun x49 =>
  sOr x49 (fun k =>
  sIxS x1 x8 1 fun x53 =>
  sLd h_7 x53 fun x54 =>
  sEq x54 (.int .i64 48) fun x55 =>
  k x55) fun x56 =>
  sIf x56 (betonylaw05_awake_c  h_7 fun x57 h_8 => 
  R x57 h_8) (sAdd .i64 x8 (.int .i64 1) fun x44 =>
  next x44 h_7)) (∃ C : Heap → Prop, C h_7 ∧ (sLdNC C x3 3 fun x58 =>
  sSlit h_7 #[] [] 3 0 fun x59 h_9 => C h_9 ∧ (
  sApp h_9 x59 x1 #[.int .i64 0] 3 8 fun x61 h_10 => C h_10 ∧ (
  sApp h_10 x61 x2 #[.int .i64 0] 3 8 fun x63 h_11 => C h_11 ∧ (
  pen_Apply_c x58 x63 h_11 fun x64 h_12 => C h_12 ∧ (
  sLdNC C x7 3 fun x65 =>
  pen_Apply_c x65 x2 h_12 fun x67 h_13 => 
  sEqlAgg x64 x67 [some .i64, some .i64, some .i64] fun x68 =>
  sAndH x68 h_13 (fun k_1 =>
  betonylaw05_awake_c  h_13 fun x70 h_15 => 
  k_1 x70 h_15) fun x71 h_14 =>
  R x71 h_14))))))
def betonylaw05_PenStays_S (x0 x1 x2 : Value) (h : Heap) (R : Value → Heap → Prop) : Prop :=
  sBox h x0 23 fun x3 h => 
  sLen x1 fun x10 =>
  sGt x10 (.int .i64 30) fun x11 =>
  sOr x11 (fun k_5 =>
  sLen x2 fun x14 =>
  sGt x14 (.int .i64 30) fun x15 =>
  k_5 x15) fun x16 =>
  sOr x16 (fun k_4 =>
  sLen x1 fun x19 =>
  sEq x19 (.int .i64 0) fun x20 =>
  k_4 x20) fun x21 =>
  sOr x21 (fun k_3 =>
  sLen x2 fun x24 =>
  sEq x24 (.int .i64 0) fun x25 =>
  k_3 x25) fun x26 =>
  sOrH x26 h (fun k_2 =>
  sLdN h x3 3 fun x28 =>
  pen_Right_c x28 h fun x29 h_16 => 
  sNot x29 fun x30 =>
  k_2 x30 h_16) fun x31 h_1 =>
  sIf x31 (betonylaw05_awake_c  h_1 fun x32 h_2 => 
  R x32 h_2) (sLdN h_1 x3 3 fun x33 =>
  pen_Apply_c x33 x1 h_1 fun x35 h_3 => 
  sNew h_3 #[.int .i64 0, .int .i64 0, .int .i64 0] 23 fun x7 h_4 => 
  sStN h_4 x7 x35 3 fun h_5 => 
  sLdN h_5 x7 3 fun x36 =>
  pen_Right_c x36 h_5 fun x37 h_6 => 
  sNot x37 fun x38 =>
  sIf x38 (R (.bool false) h_6) (sLoop (S := Value) (fun nxt s h => betonylaw05_PenStays_l1 R x1 x2 x3 x7 (fun x8' h => nxt x8' h) s h) (.int .i64 0) h_6))
set_option maxRecDepth 100000 in
theorem betonylaw05_PenStays_runs {x0 x1 x2 : Value} {h : Heap} {R : Value → Heap → Prop} (H : betonylaw05_PenStays_S x0 x1 x2 h R) : betonylaw05_PenStays_c x0 x1 x2 h R := by
  unfold betonylaw05_PenStays_S at H
  refine runs_of (b := ⟨([x0, x1, x2, undef, undef, undef, undef, undef, undef, undef, undef, undef, undef, undef, undef, undef, undef, undef, undef, undef, undef, undef, undef, undef, undef, undef, undef, undef, undef, undef, undef, undef, undef, undef, undef, undef, undef, undef, undef, undef, undef, undef, undef, undef, undef, undef, undef, undef, undef, undef] ++ [undef, undef, undef, undef, undef, undef, undef, undef, undef, undef, undef, undef, undef, undef, undef, undef, undef, undef, undef, undef, undef, undef]).toArray, []⟩) Try.call3 Try.func3 rfl (by kernel_rfl) (fun w0 HA => ?_)
  refine wp_seq ?_
  refine lwp_list ?_
  refine ls_d (d := some 3) (by kernel_rfl) (by kernel_rfl) HA (d_box (by kernel_rfl) H) (fun x3 h w H HA => ?_)
  refine ls_assign (x := (.bool false)) (by kernel_rfl) (by kernel_rfl) ?_
  refine ls_nil ?_
  refine then_normal ?_
  refine fr_eq (b := ⟨([x0, x1, x2, x3, undef, undef, (.bool false), undef, undef, undef, undef, undef, undef, undef, undef, undef, undef, undef, undef, undef, undef, undef, undef, undef, undef, undef, undef, undef, undef, undef, undef, undef, undef, undef, undef, undef, undef, undef, undef, undef, undef, undef, undef, undef, undef, undef, undef, undef, undef, undef] ++ [undef, undef, undef, undef, undef, undef, undef, undef, undef, undef, undef, undef, undef, undef, undef, undef, undef, undef, undef, undef, undef, undef]).toArray, []⟩) (by kernel_rfl) ?_
  refine wp_seq ?_
  refine wp_seq ?_
  refine lwp_list ?_
  refine ls_move (x := x1) (by kernel_rfl) (by kernel_rfl) ?_
  refine ls_p (d := some 10) (by kernel_rfl) (by kernel_rfl) (p_len Try.underlying24 (by kernel_rfl) H) (fun x10 H => ?_)
  refine ls_p (d := some 11) (by kernel_rfl) (by kernel_rfl) (p_sGt (by kernel_rfl) (by kernel_rfl) H) (fun x11 H => ?_)
  refine ls_move (x := x11) (by kernel_rfl) (by kernel_rfl) ?_
  refine ls_or [(), (), (), ()] (fun K a w => ∃ (D : Nat → Value) (x16 : Value), a = ⟨([x0, x1, x2, x3, undef, undef, (.bool false), undef, undef, x1, x10, x11, x11, (D 0), (D 1), (D 2), x16, undef, undef, undef, undef, undef, undef, undef, undef, undef, undef, undef, undef, undef, undef, undef, undef, undef, undef, undef, undef, undef, undef, undef, undef, undef, undef, undef, undef, undef, undef, undef, undef, undef] ++ [undef, undef, undef, undef, undef, undef, undef, undef, undef, undef, undef, undef, undef, undef, undef, undef, undef, undef, undef, undef, undef, undef]).toArray, []⟩ ∧ At w0 w h ∧ K x16) H (fun hb_5 H => ?_) (fun hb_5 H => ?_) ?_
  · refine ls_move (x := x2) (by rw [hb_5]; kernel_rfl) (by kernel_rfl) ?_
    refine ls_p (d := some 14) (by kernel_rfl) (by rw [hb_5]; kernel_rfl) (p_len Try.underlying24 (by kernel_rfl) H) (fun x14 H => ?_)
    refine ls_fr (b := ⟨([x0, x1, x2, x3, undef, undef, (.bool false), undef, undef, x1, x10, x11, x11, x2, x14, undef, undef, undef, undef, undef, undef, undef, undef, undef, undef, undef, undef, undef, undef, undef, undef, undef, undef, undef, undef, undef, undef, undef, undef, undef, undef, undef, undef, undef, undef, undef, undef, undef, undef, undef] ++ [undef, undef, undef, undef, undef, undef, undef, undef, undef, undef, undef, undef, undef, undef, undef, undef, undef, undef, undef, undef, undef, undef]).toArray, []⟩) (by kernel_rfl) ?_
    refine ls_p (d := some 15) (by kernel_rfl) (by rw [hb_5]; kernel_rfl) (p_sGt (by kernel_rfl) (by kernel_rfl) H) (fun x15 H => ?_)
    refine ls_pick_f (y := x15) (by kernel_rfl) (by rw [hb_5]; kernel_rfl) (by kernel_rfl) ?_
    refine ls_nil ?_
    refine then_normal ?_
    exact ⟨(fun i => ([x2, x14, x15]).getD i undef), x15, by kernel_rfl, HA, H⟩
  · refine ls_skip (d := some 13) (by kernel_rfl) (by rw [hb_5]; kernel_rfl) ?_
    refine ls_skip (d := some 14) (by kernel_rfl) (by rw [hb_5]; kernel_rfl) ?_
    refine ls_fr (b := ⟨([x0, x1, x2, x3, undef, undef, (.bool false), undef, undef, x1, x10, x11, x11, undef, undef, undef, undef, undef, undef, undef, undef, undef, undef, undef, undef, undef, undef, undef, undef, undef, undef, undef, undef, undef, undef, undef, undef, undef, undef, undef, undef, undef, undef, undef, undef, undef, undef, undef, undef, undef] ++ [undef, undef, undef, undef, undef, undef, undef, undef, undef, undef, undef, undef, undef, undef, undef, undef, undef, undef, undef, undef, undef, undef]).toArray, []⟩) (by kernel_rfl) ?_
    refine ls_skip (d := some 15) (by kernel_rfl) (by rw [hb_5]; kernel_rfl) ?_
    refine ls_pick_t (x := (.bool true)) (by kernel_rfl) (by rw [hb_5]; kernel_rfl) (by kernel_rfl) ?_
    refine ls_nil ?_
    refine then_normal ?_
    exact ⟨(fun i => ([undef, undef, undef]).getD i undef), (.bool true), by kernel_rfl, HA, H⟩
  · rintro _ w_1 ⟨D, x16, rfl, HA_1, H⟩
    refine ls_move (x := x16) (by kernel_rfl) (by kernel_rfl) ?_
    refine ls_or [(), (), (), ()] (fun K a w => ∃ (D_1 : Nat → Value) (x21 : Value), a = ⟨([x0, x1, x2, x3, undef, undef, (.bool false), undef, undef, x1, x10, x11, x11, (D 0), (D 1), (D 2), x16, x16, (D_1 0), (D_1 1), (D_1 2), x21, undef, undef, undef, undef, undef, undef, undef, undef, undef, undef, undef, undef, undef, undef, undef, undef, undef, undef, undef, undef, undef, undef, undef, undef, undef, undef, undef, undef] ++ [undef, undef, undef, undef, undef, undef, undef, undef, undef, undef, undef, undef, undef, undef, undef, undef, undef, undef, undef, undef, undef, undef]).toArray, []⟩ ∧ At w0 w h ∧ K x21) H (fun hb_4 H => ?_) (fun hb_4 H => ?_) ?_
    · refine ls_move (x := x1) (by rw [hb_4]; kernel_rfl) (by kernel_rfl) ?_
      refine ls_p (d := some 19) (by kernel_rfl) (by rw [hb_4]; kernel_rfl) (p_len Try.underlying24 (by kernel_rfl) H) (fun x19 H => ?_)
      refine ls_p (d := some 20) (by kernel_rfl) (by rw [hb_4]; kernel_rfl) (p_sEq (by kernel_rfl) (by kernel_rfl) H) (fun x20 H => ?_)
      refine ls_pick_f (y := x20) (by kernel_rfl) (by rw [hb_4]; kernel_rfl) (by kernel_rfl) ?_
      refine ls_nil ?_
      refine then_normal ?_
      exact ⟨(fun i => ([x1, x19, x20]).getD i undef), x20, by kernel_rfl, HA_1, H⟩
    · refine ls_skip (d := some 18) (by kernel_rfl) (by rw [hb_4]; kernel_rfl) ?_
      refine ls_skip (d := some 19) (by kernel_rfl) (by rw [hb_4]; kernel_rfl) ?_
      refine ls_skip (d := some 20) (by kernel_rfl) (by rw [hb_4]; kernel_rfl) ?_
      refine ls_pick_t (x := (.bool true)) (by kernel_rfl) (by rw [hb_4]; kernel_rfl) (by kernel_rfl) ?_
      refine ls_nil ?_
      refine then_normal ?_
      exact ⟨(fun i => ([undef, undef, undef]).getD i undef), (.bool true), by kernel_rfl, HA_1, H⟩
    · rintro _ w_2 ⟨D_1, x21, rfl, HA_2, H⟩
      refine ls_move (x := x21) (by kernel_rfl) (by kernel_rfl) ?_
      refine ls_or [(), (), (), ()] (fun K a w => ∃ (D_2 : Nat → Value) (x26 : Value), a = ⟨([x0, x1, x2, x3, undef, undef, (.bool false), undef, undef, x1, x10, x11, x11, (D 0), (D 1), (D 2), x16, x16, (D_1 0), (D_1 1), (D_1 2), x21, x21, (D_2 0), (D_2 1), (D_2 2), x26, undef, undef, undef, undef, undef, undef, undef, undef, undef, undef, undef, undef, undef, undef, undef, undef, undef, undef, undef, undef, undef, undef, undef] ++ [undef, undef, undef, undef, undef, undef, undef, undef, undef, undef, undef, undef, undef, undef, undef, undef, undef, undef, undef, undef, undef, undef]).toArray, []⟩ ∧ At w0 w h ∧ K x26) H (fun hb_3 H => ?_) (fun hb_3 H => ?_) ?_
      · refine ls_move (x := x2) (by rw [hb_3]; kernel_rfl) (by kernel_rfl) ?_
        refine ls_p (d := some 24) (by kernel_rfl) (by rw [hb_3]; kernel_rfl) (p_len Try.underlying24 (by kernel_rfl) H) (fun x24 H => ?_)
        refine ls_p (d := some 25) (by kernel_rfl) (by rw [hb_3]; kernel_rfl) (p_sEq (by kernel_rfl) (by kernel_rfl) H) (fun x25 H => ?_)
        refine ls_pick_f (y := x25) (by kernel_rfl) (by rw [hb_3]; kernel_rfl) (by kernel_rfl) ?_
        refine ls_nil ?_
        refine then_normal ?_
        exact ⟨(fun i => ([x2, x24, x25]).getD i undef), x25, by kernel_rfl, HA_2, H⟩
      · refine ls_skip (d := some 23) (by kernel_rfl) (by rw [hb_3]; kernel_rfl) ?_
        refine ls_skip (d := some 24) (by kernel_rfl) (by rw [hb_3]; kernel_rfl) ?_
        refine ls_skip (d := some 25) (by kernel_rfl) (by rw [hb_3]; kernel_rfl) ?_
        refine ls_pick_t (x := (.bool true)) (by kernel_rfl) (by rw [hb_3]; kernel_rfl) (by kernel_rfl) ?_
        refine ls_nil ?_
        refine then_normal ?_
        exact ⟨(fun i => ([undef, undef, undef]).getD i undef), (.bool true), by kernel_rfl, HA_2, H⟩
      · rintro _ w_3 ⟨D_2, x26, rfl, HA_3, H⟩
        refine ls_move (x := x26) (by kernel_rfl) (by kernel_rfl) ?_
        refine ls_orh [(), (), (), ()] (fun K a w => ∃ (D_3 : Nat → Value) (x31 : Value) (h_1 : Heap), a = ⟨([x0, x1, x2, x3, undef, undef, (.bool false), undef, undef, x1, x10, x11, x11, (D 0), (D 1), (D 2), x16, x16, (D_1 0), (D_1 1), (D_1 2), x21, x21, (D_2 0), (D_2 1), (D_2 2), x26, x26, (D_3 0), (D_3 1), (D_3 2), x31, undef, undef, undef, undef, undef, undef, undef, undef, undef, undef, undef, undef, undef, undef, undef, undef, undef, undef] ++ [undef, undef, undef, undef, undef, undef, undef, undef, undef, undef, undef, undef, undef, undef, undef, undef, undef, undef, undef, undef, undef, undef]).toArray, []⟩ ∧ At w0 w h_1 ∧ K x31 h_1) H (fun hb_2 H => ?_) (fun hb_2 H => ?_) ?_
        · refine ls_y (d := some 28) (by kernel_rfl) (by rw [hb_2]; kernel_rfl) HA_3 (y_ldn Try.isAgg23 Try.sizeOf23 (by kernel_rfl) H) (fun x28 H => ?_)
          refine ls_d (d := some 29) (by kernel_rfl) (by rw [hb_2]; kernel_rfl) HA_3 (d_call (by kernel_rfl) (by kernel_rfl) H) (fun x29 h_16 w_21 H HA_21 => ?_)
          refine ls_p (d := some 30) (by kernel_rfl) (by rw [hb_2]; kernel_rfl) (p_not (by kernel_rfl) H) (fun x30 H => ?_)
          refine ls_pick_f (y := x30) (by kernel_rfl) (by rw [hb_2]; kernel_rfl) (by kernel_rfl) ?_
          refine ls_nil ?_
          refine then_normal ?_
          exact ⟨(fun i => ([x28, x29, x30]).getD i undef), x30, h_16, by kernel_rfl, HA_21, H⟩
        · refine ls_skip (d := some 28) (by kernel_rfl) (by rw [hb_2]; kernel_rfl) ?_
          refine ls_skip (d := some 29) (by kernel_rfl) (by rw [hb_2]; kernel_rfl) ?_
          refine ls_skip (d := some 30) (by kernel_rfl) (by rw [hb_2]; kernel_rfl) ?_
          refine ls_pick_t (x := (.bool true)) (by kernel_rfl) (by rw [hb_2]; kernel_rfl) (by kernel_rfl) ?_
          refine ls_nil ?_
          refine then_normal ?_
          exact ⟨(fun i => ([undef, undef, undef]).getD i undef), (.bool true), h, by kernel_rfl, HA_3, H⟩
        · rintro _ w_4 ⟨D_3, x31, h_1, rfl, HA_4, H⟩
          refine ls_nil ?_
          refine then_normal ?_
          refine fr_eq (b := ⟨([x0, x1, x2, x3, undef, undef, (.bool false), undef, undef, x1, x10, x11, x11, (D 0), (D 1), (D 2), x16, x16, (D_1 0), (D_1 1), (D_1 2), x21, x21, (D_2 0), (D_2 1), (D_2 2), x26, x26, (D_3 0), (D_3 1), (D_3 2), x31, undef, undef, undef, undef, undef, undef, undef, undef, undef, undef, undef, undef, undef, undef, undef, undef, undef, undef] ++ [undef, undef, undef, undef, undef, undef, undef, undef, undef, undef, undef, undef, undef, undef, undef, undef, undef, undef, undef, undef, undef, undef]).toArray, []⟩) (by kernel_rfl) ?_
          refine wp_if rfl H (fun H => ?_) (fun H => ?_)
          · refine wp_seq ?_
            refine lwp_list ?_
            refine ls_d (d := some 32) (by kernel_rfl) (by kernel_rfl) HA_4 (d_call (by kernel_rfl) (by kernel_rfl) H) (fun x32 h_2 w_5 H HA_5 => ?_)
            refine ls_assign (x := x32) (by kernel_rfl) (by kernel_rfl) ?_
            refine ls_nil ?_
            refine then_normal ?_
            refine fr_eq (b := ⟨([x0, x1, x2, x3, undef, undef, x32, undef, undef, x1, x10, x11, x11, (D 0), (D 1), (D 2), x16, x16, (D_1 0), (D_1 1), (D_1 2), x21, x21, (D_2 0), (D_2 1), (D_2 2), x26, x26, (D_3 0), (D_3 1), (D_3 2), x31, x32, undef, undef, undef, undef, undef, undef, undef, undef, undef, undef, undef, undef, undef, undef, undef, undef, undef] ++ [undef, undef, undef, undef, undef, undef, undef, undef, undef, undef, undef, undef, undef, undef, undef, undef, undef, undef, undef, undef, undef, undef]).toArray, []⟩) (by kernel_rfl) ?_
            refine wp_ret ?_
            refine then_ret ?_
            exact end1 (Try.results3) (by kernel_rfl) (by kernel_rfl) HA_5 H _ (.inr rfl)
          · refine wp_skip ?_
            refine then_normal ?_
            refine fr_eq (b := ⟨([x0, x1, x2, x3, undef, undef, (.bool false), undef, undef, x1, x10, x11, x11, (D 0), (D 1), (D 2), x16, x16, (D_1 0), (D_1 1), (D_1 2), x21, x21, (D_2 0), (D_2 1), (D_2 2), x26, x26, (D_3 0), (D_3 1), (D_3 2), x31, undef, undef, undef, undef, undef, undef, undef, undef, undef, undef, undef, undef, undef, undef, undef, undef, undef, undef] ++ [undef, undef, undef, undef, undef, undef, undef, undef, undef, undef, undef, undef, undef, undef, undef, undef, undef, undef, undef, undef, undef, undef]).toArray, []⟩) (by kernel_rfl) ?_
            refine wp_seq ?_
            refine lwp_list ?_
            refine ls_y (d := some 33) (by kernel_rfl) (by kernel_rfl) HA_4 (y_ldn Try.isAgg23 Try.sizeOf23 (by kernel_rfl) H) (fun x33 H => ?_)
            refine ls_move (x := x1) (by kernel_rfl) (by kernel_rfl) ?_
            refine ls_d (d := some 35) (by kernel_rfl) (by kernel_rfl) HA_4 (d_call (by kernel_rfl) (by kernel_rfl) H) (fun x35 h_3 w_6 H HA_6 => ?_)
            refine ls_d (d := some 7) (by kernel_rfl) (by kernel_rfl) HA_6 (d_alloc Try.zeroValue23 H) (fun x7 h_4 w_7 H HA_7 => ?_)
            refine ls_d (d := none) (by kernel_rfl) (by kernel_rfl) HA_7 (d_stn Try.sizeOf23 (by kernel_rfl) (by kernel_rfl) H) (fun _ h_5 w_8 H HA_8 => ?_)
            refine ls_nil ?_
            refine then_normal ?_
            refine fr_eq (b := ⟨([x0, x1, x2, x3, undef, undef, (.bool false), x7, undef, x1, x10, x11, x11, (D 0), (D 1), (D 2), x16, x16, (D_1 0), (D_1 1), (D_1 2), x21, x21, (D_2 0), (D_2 1), (D_2 2), x26, x26, (D_3 0), (D_3 1), (D_3 2), x31, undef, x33, x1, x35, undef, undef, undef, undef, undef, undef, undef, undef, undef, undef, undef, undef, undef, undef] ++ [undef, undef, undef, undef, undef, undef, undef, undef, undef, undef, undef, undef, undef, undef, undef, undef, undef, undef, undef, undef, undef, undef]).toArray, []⟩) (by kernel_rfl) ?_
            refine wp_seq ?_
            refine wp_seq ?_
            refine lwp_list ?_
            refine ls_y (d := some 36) (by kernel_rfl) (by kernel_rfl) HA_8 (y_ldn Try.isAgg23 Try.sizeOf23 (by kernel_rfl) H) (fun x36 H => ?_)
            refine ls_d (d := some 37) (by kernel_rfl) (by kernel_rfl) HA_8 (d_call (by kernel_rfl) (by kernel_rfl) H) (fun x37 h_6 w_9 H HA_9 => ?_)
            refine ls_p (d := some 38) (by kernel_rfl) (by kernel_rfl) (p_not (by kernel_rfl) H) (fun x38 H => ?_)
            refine ls_nil ?_
            refine then_normal ?_
            refine fr_eq (b := ⟨([x0, x1, x2, x3, undef, undef, (.bool false), x7, undef, x1, x10, x11, x11, (D 0), (D 1), (D 2), x16, x16, (D_1 0), (D_1 1), (D_1 2), x21, x21, (D_2 0), (D_2 1), (D_2 2), x26, x26, (D_3 0), (D_3 1), (D_3 2), x31, undef, x33, x1, x35, x36, x37, x38, undef, undef, undef, undef, undef, undef, undef, undef, undef, undef, undef] ++ [undef, undef, undef, undef, undef, undef, undef, undef, undef, undef, undef, undef, undef, undef, undef, undef, undef, undef, undef, undef, undef, undef]).toArray, []⟩) (by kernel_rfl) ?_
            refine wp_if rfl H (fun H => ?_) (fun H => ?_)
            · refine wp_seq ?_
              refine lwp_list ?_
              refine ls_assign (x := (.bool false)) (by kernel_rfl) (by kernel_rfl) ?_
              refine ls_nil ?_
              refine then_normal ?_
              refine fr_eq (b := ⟨([x0, x1, x2, x3, undef, undef, (.bool false), x7, undef, x1, x10, x11, x11, (D 0), (D 1), (D 2), x16, x16, (D_1 0), (D_1 1), (D_1 2), x21, x21, (D_2 0), (D_2 1), (D_2 2), x26, x26, (D_3 0), (D_3 1), (D_3 2), x31, undef, x33, x1, x35, x36, x37, x38, undef, undef, undef, undef, undef, undef, undef, undef, undef, undef, undef] ++ [undef, undef, undef, undef, undef, undef, undef, undef, undef, undef, undef, undef, undef, undef, undef, undef, undef, undef, undef, undef, undef, undef]).toArray, []⟩) (by kernel_rfl) ?_
              refine wp_ret ?_
              refine then_ret ?_
              exact end1 (Try.results3) (by kernel_rfl) (by kernel_rfl) HA_9 H _ (.inr rfl)
            · refine wp_skip ?_
              refine then_normal ?_
              refine fr_eq (b := ⟨([x0, x1, x2, x3, undef, undef, (.bool false), x7, undef, x1, x10, x11, x11, (D 0), (D 1), (D 2), x16, x16, (D_1 0), (D_1 1), (D_1 2), x21, x21, (D_2 0), (D_2 1), (D_2 2), x26, x26, (D_3 0), (D_3 1), (D_3 2), x31, undef, x33, x1, x35, x36, x37, x38, undef, undef, undef, undef, undef, undef, undef, undef, undef, undef, undef] ++ [undef, undef, undef, undef, undef, undef, undef, undef, undef, undef, undef, undef, undef, undef, undef, undef, undef, undef, undef, undef, undef, undef]).toArray, []⟩) (by kernel_rfl) ?_
              refine wp_seq ?_
              refine wp_seq ?_
              refine lwp_list ?_
              refine ls_assign (x := (.int .i64 0)) (by kernel_rfl) (by kernel_rfl) ?_
              refine ls_nil ?_
              refine then_normal ?_
              refine fr_eq (b := ⟨([x0, x1, x2, x3, undef, undef, (.bool false), x7, (.int .i64 0), x1, x10, x11, x11, (D 0), (D 1), (D 2), x16, x16, (D_1 0), (D_1 1), (D_1 2), x21, x21, (D_2 0), (D_2 1), (D_2 2), x26, x26, (D_3 0), (D_3 1), (D_3 2), x31, undef, x33, x1, x35, x36, x37, x38, undef, undef, undef, undef, undef, undef, undef, undef, undef, undef, undef] ++ [undef, undef, undef, undef, undef, undef, undef, undef, undef, undef, undef, undef, undef, undef, undef, undef, undef, undef, undef, undef, undef, undef]).toArray, []⟩) (by kernel_rfl) ?_
              refine wp_block ?_
              obtain ⟨I, m, H0, HB⟩ := H
              refine wp_loop (fun a w => ∃ (D_4 : Nat → Value) (x8 : Value) (h_7 : Heap), a = ⟨([x0, x1, x2, x3, undef, undef, (D_4 0), x7, x8, x1, x10, x11, x11, (D 0), (D 1), (D 2), x16, x16, (D_1 0), (D_1 1), (D_1 2), x21, x21, (D_2 0), (D_2 1), (D_2 2), x26, x26, (D_3 0), (D_3 1), (D_3 2), x31, undef, x33, x1, x35, x36, x37, x38, (D_4 1), (D_4 2), (D_4 3), (D_4 4), (D_4 5), (D_4 6), (D_4 7), (D_4 8), (D_4 9), (D_4 10), (D_4 11)] ++ [(D_4 12), (D_4 13), (D_4 14), (D_4 15), (D_4 16), (D_4 17), (D_4 18), (D_4 19), undef, undef, undef, undef, undef, undef, undef, undef, undef, undef, undef, undef, undef, undef]).toArray, []⟩ ∧ At w0 w h_7 ∧ I x8 h_7) (fun a w => m (a.tmps.getD 8 undef) w.heap) ?_ ?_
              · exact ⟨(fun i => ([(.bool false), undef, undef, undef, undef, undef, undef, undef, undef, undef, undef, undef, undef, undef, undef, undef, undef, undef, undef, undef]).getD i undef), (.int .i64 0), h_6, by kernel_rfl, HA_9, H0⟩
              · rintro _ w_10 ⟨D_4, x8, h_7, rfl, HA_10, HI⟩
                have H : betonylaw05_PenStays_l1 R x1 x2 x3 x7 (fun x8' h' => I x8' h' ∧ m x8' h' < m x8 h_7) x8 h_7 := HB x8 h_7 HI
                clear HB H0 HI
                unfold betonylaw05_PenStays_l1 at H
                refine wp_seq ?_
                refine wp_seq ?_
                refine lwp_list ?_
                refine ls_move (x := x8) (by kernel_rfl) (by kernel_rfl) ?_
                refine ls_move (x := x1) (by kernel_rfl) (by kernel_rfl) ?_
                refine ls_p (d := some 41) (by kernel_rfl) (by kernel_rfl) (p_len Try.underlying24 (by kernel_rfl) H) (fun x41 H => ?_)
                refine ls_p (d := some 42) (by kernel_rfl) (by kernel_rfl) (p_sLt (by kernel_rfl) (by kernel_rfl) H) (fun x42 H => ?_)
                refine ls_nil ?_
                refine then_normal ?_
                refine fr_eq (b := ⟨([x0, x1, x2, x3, undef, undef, (D_4 0), x7, x8, x1, x10, x11, x11, (D 0), (D 1), (D 2), x16, x16, (D_1 0), (D_1 1), (D_1 2), x21, x21, (D_2 0), (D_2 1), (D_2 2), x26, x26, (D_3 0), (D_3 1), (D_3 2), x31, undef, x33, x1, x35, x36, x37, x38, x8, x1, x41, x42, (D_4 5), (D_4 6), (D_4 7), (D_4 8), (D_4 9), (D_4 10), (D_4 11)] ++ [(D_4 12), (D_4 13), (D_4 14), (D_4 15), (D_4 16), (D_4 17), (D_4 18), (D_4 19), undef, undef, undef, undef, undef, undef, undef, undef, undef, undef, undef, undef, undef, undef]).toArray, []⟩) (by kernel_rfl) ?_
                refine wp_if rfl H (fun H => ?_) (fun H => ?_)
                · refine wp_skip ?_
                  refine then_normal ?_
                  refine fr_eq (b := ⟨([x0, x1, x2, x3, undef, undef, (D_4 0), x7, x8, x1, x10, x11, x11, (D 0), (D 1), (D 2), x16, x16, (D_1 0), (D_1 1), (D_1 2), x21, x21, (D_2 0), (D_2 1), (D_2 2), x26, x26, (D_3 0), (D_3 1), (D_3 2), x31, undef, x33, x1, x35, x36, x37, x38, x8, x1, x41, x42, (D_4 5), (D_4 6), (D_4 7), (D_4 8), (D_4 9), (D_4 10), (D_4 11)] ++ [(D_4 12), (D_4 13), (D_4 14), (D_4 15), (D_4 16), (D_4 17), (D_4 18), (D_4 19), undef, undef, undef, undef, undef, undef, undef, undef, undef, undef, undef, undef, undef, undef]).toArray, []⟩) (by kernel_rfl) ?_
                  refine wp_seq ?_
                  refine wp_block ?_
                  refine wp_seq ?_
                  refine lwp_list ?_
                  refine ls_move (x := x1) (by kernel_rfl) (by kernel_rfl) ?_
                  refine ls_move (x := x8) (by kernel_rfl) (by kernel_rfl) ?_
                  refine ls_p (d := some 47) (by kernel_rfl) (by kernel_rfl) (p_ixs Try.underlying24 Try.sizeOf3 (by kernel_rfl) (by kernel_rfl) H) (fun x47 H => ?_)
                  refine ls_y (d := some 48) (by kernel_rfl) (by kernel_rfl) HA_10 (y_ld Try.isAgg3 (by kernel_rfl) H) (fun x48 H => ?_)
                  refine ls_p (d := some 49) (by kernel_rfl) (by kernel_rfl) (p_sEq (by kernel_rfl) (by kernel_rfl) H) (fun x49 H => ?_)
                  refine ls_move (x := x49) (by kernel_rfl) (by kernel_rfl) ?_
                  refine ls_fr (b := ⟨([x0, x1, x2, x3, undef, undef, (D_4 0), x7, x8, x1, x10, x11, x11, (D 0), (D 1), (D 2), x16, x16, (D_1 0), (D_1 1), (D_1 2), x21, x21, (D_2 0), (D_2 1), (D_2 2), x26, x26, (D_3 0), (D_3 1), (D_3 2), x31, undef, x33, x1, x35, x36, x37, x38, x8, x1, x41, x42, (D_4 5), (D_4 6), x1, x8, x47, x48, x49] ++ [x49, (D_4 13), (D_4 14), (D_4 15), (D_4 16), (D_4 17), (D_4 18), (D_4 19), undef, undef, undef, undef, undef, undef, undef, undef, undef, undef, undef, undef, undef, undef]).toArray, []⟩) (by kernel_rfl) ?_
                  refine ls_or [(), (), (), (), (), ()] (fun K a w => ∃ (D_5 : Nat → Value) (x56 : Value), a = ⟨([x0, x1, x2, x3, undef, undef, (D_4 0), x7, x8, x1, x10, x11, x11, (D 0), (D 1), (D 2), x16, x16, (D_1 0), (D_1 1), (D_1 2), x21, x21, (D_2 0), (D_2 1), (D_2 2), x26, x26, (D_3 0), (D_3 1), (D_3 2), x31, undef, x33, x1, x35, x36, x37, x38, x8, x1, x41, x42, (D_4 5), (D_4 6), x1, x8, x47, x48, x49] ++ [x49, (D_5 0), (D_5 1), (D_5 2), (D_5 3), (D_5 4), x56, (D_4 19), undef, undef, undef, undef, undef, undef, undef, undef, undef, undef, undef, undef, undef, undef]).toArray, []⟩ ∧ At w0 w h_7 ∧ K x56) H (fun hb H => ?_) (fun hb H => ?_) ?_
                  · refine ls_move (x := x1) (by rw [hb]; kernel_rfl) (by kernel_rfl) ?_
                    refine ls_move (x := x8) (by rw [hb]; kernel_rfl) (by kernel_rfl) ?_
                    refine ls_p (d := some 53) (by kernel_rfl) (by rw [hb]; kernel_rfl) (p_ixs Try.underlying24 Try.sizeOf3 (by kernel_rfl) (by kernel_rfl) H) (fun x53 H => ?_)
                    refine ls_y (d := some 54) (by kernel_rfl) (by rw [hb]; kernel_rfl) HA_10 (y_ld Try.isAgg3 (by kernel_rfl) H) (fun x54 H => ?_)
                    refine ls_p (d := some 55) (by kernel_rfl) (by rw [hb]; kernel_rfl) (p_sEq (by kernel_rfl) (by kernel_rfl) H) (fun x55 H => ?_)
                    refine ls_pick_f (y := x55) (by kernel_rfl) (by rw [hb]; kernel_rfl) (by kernel_rfl) ?_
                    refine ls_nil ?_
                    refine then_normal ?_
                    exact ⟨(fun i => ([x1, x8, x53, x54, x55]).getD i undef), x55, by kernel_rfl, HA_10, H⟩
                  · refine ls_skip (d := some 51) (by kernel_rfl) (by rw [hb]; kernel_rfl) ?_
                    refine ls_skip (d := some 52) (by kernel_rfl) (by rw [hb]; kernel_rfl) ?_
                    refine ls_skip (d := some 53) (by kernel_rfl) (by rw [hb]; kernel_rfl) ?_
                    refine ls_skip (d := some 54) (by kernel_rfl) (by rw [hb]; kernel_rfl) ?_
                    refine ls_skip (d := some 55) (by kernel_rfl) (by rw [hb]; kernel_rfl) ?_
                    refine ls_pick_t (x := (.bool true)) (by kernel_rfl) (by rw [hb]; kernel_rfl) (by kernel_rfl) ?_
                    refine ls_nil ?_
                    refine then_normal ?_
                    exact ⟨(fun i => ([undef, undef, undef, undef, undef]).getD i undef), (.bool true), by kernel_rfl, HA_10, H⟩
                  · rintro _ w_11 ⟨D_5, x56, rfl, HA_11, H⟩
                    refine ls_nil ?_
                    refine then_normal ?_
                    refine fr_eq (b := ⟨([x0, x1, x2, x3, undef, undef, (D_4 0), x7, x8, x1, x10, x11, x11, (D 0), (D 1), (D 2), x16, x16, (D_1 0), (D_1 1), (D_1 2), x21, x21, (D_2 0), (D_2 1), (D_2 2), x26, x26, (D_3 0), (D_3 1), (D_3 2), x31, undef, x33, x1, x35, x36, x37, x38, x8, x1, x41, x42, (D_4 5), (D_4 6), x1, x8, x47, x48, x49] ++ [x49, (D_5 0), (D_5 1), (D_5 2), (D_5 3), (D_5 4), x56, (D_4 19), undef, undef, undef, undef, undef, undef, undef, undef, undef, undef, undef, undef, undef, undef]).toArray, []⟩) (by kernel_rfl) ?_
                    refine wp_if rfl H (fun H => ?_) (fun H => ?_)
                    · refine wp_seq ?_
                      refine lwp_list ?_
                      refine ls_d (d := some 57) (by kernel_rfl) (by kernel_rfl) HA_11 (d_call (by kernel_rfl) (by kernel_rfl) H) (fun x57 h_8 w_12 H HA_12 => ?_)
                      refine ls_assign (x := x57) (by kernel_rfl) (by kernel_rfl) ?_
                      refine ls_nil ?_
                      refine then_normal ?_
                      refine fr_eq (b := ⟨([x0, x1, x2, x3, undef, undef, x57, x7, x8, x1, x10, x11, x11, (D 0), (D 1), (D 2), x16, x16, (D_1 0), (D_1 1), (D_1 2), x21, x21, (D_2 0), (D_2 1), (D_2 2), x26, x26, (D_3 0), (D_3 1), (D_3 2), x31, undef, x33, x1, x35, x36, x37, x38, x8, x1, x41, x42, (D_4 5), (D_4 6), x1, x8, x47, x48, x49] ++ [x49, (D_5 0), (D_5 1), (D_5 2), (D_5 3), (D_5 4), x56, x57, undef, undef, undef, undef, undef, undef, undef, undef, undef, undef, undef, undef, undef, undef]).toArray, []⟩) (by kernel_rfl) ?_
                      refine wp_ret ?_
                      refine block_ret ?_
                      refine then_ret ?_
                      refine then_ret ?_
                      refine block_ret ?_
                      refine then_ret ?_
                      exact end1 (Try.results3) (by kernel_rfl) (by kernel_rfl) HA_12 H _ (.inr rfl)
                    · refine wp_skip ?_
                      refine block_normal ?_
                      refine then_normal ?_
                      refine fr_eq (b := ⟨([x0, x1, x2, x3, undef, undef, (D_4 0), x7, x8, x1, x10, x11, x11, (D 0), (D 1), (D 2), x16, x16, (D_1 0), (D_1 1), (D_1 2), x21, x21, (D_2 0), (D_2 1), (D_2 2), x26, x26, (D_3 0), (D_3 1), (D_3 2), x31, undef, x33, x1, x35, x36, x37, x38, x8, x1, x41, x42, (D_4 5), (D_4 6), x1, x8, x47, x48, x49] ++ [x49, (D_5 0), (D_5 1), (D_5 2), (D_5 3), (D_5 4), x56, (D_4 19), undef, undef, undef, undef, undef, undef, undef, undef, undef, undef, undef, undef, undef, undef]).toArray, []⟩) (by kernel_rfl) ?_
                      refine lwp_list ?_
                      refine ls_move (x := x8) (by kernel_rfl) (by kernel_rfl) ?_
                      refine ls_p (d := some 44) (by kernel_rfl) (by kernel_rfl) (p_add (by kernel_rfl) (by kernel_rfl) H) (fun x44 H => ?_)
                      refine ls_assign (x := x44) (by kernel_rfl) (by kernel_rfl) ?_
                      refine ls_nil ?_
                      exact ⟨⟨(fun i => ([(D_4 0), x8, x1, x41, x42, x8, x44, x1, x8, x47, x48, x49, x49, (D_5 0), (D_5 1), (D_5 2), (D_5 3), (D_5 4), x56, (D_4 19)]).getD i undef), x44, h_7, by kernel_rfl, HA_11, H.1⟩, loop_lt HA_11.heap HA_10.heap (by kernel_rfl) (by kernel_rfl) H.2⟩
                · refine wp_exit ?_
                  refine then_exit ?_
                  refine then_exit ?_
                  refine block_exit ?_
                  refine then_normal ?_
                  refine fr_eq (b := ⟨([x0, x1, x2, x3, undef, undef, (D_4 0), x7, x8, x1, x10, x11, x11, (D 0), (D 1), (D 2), x16, x16, (D_1 0), (D_1 1), (D_1 2), x21, x21, (D_2 0), (D_2 1), (D_2 2), x26, x26, (D_3 0), (D_3 1), (D_3 2), x31, undef, x33, x1, x35, x36, x37, x38, x8, x1, x41, x42, (D_4 5), (D_4 6), (D_4 7), (D_4 8), (D_4 9), (D_4 10), (D_4 11)] ++ [(D_4 12), (D_4 13), (D_4 14), (D_4 15), (D_4 16), (D_4 17), (D_4 18), (D_4 19), undef, undef, undef, undef, undef, undef, undef, undef, undef, undef, undef, undef, undef, undef]).toArray, []⟩) (by kernel_rfl) ?_
                  refine wp_seq ?_
                  obtain ⟨C, HC, H⟩ := H
                  refine lwp_mx (Nat.testBit 4714) (Nat.testBit 106) (Nat.testBit 27924) [0, 0, 0, 6, 0, 30, 63, 0, 0, 511, 1023, 2047, 4095, 8191, 16383] C [0, 1, 2, 3, 4, 5, 6, 7, 8, 9, 10, 11, 12, 13, 14] (by kernel_rfl) (by kernel_rfl) (by kernel_rfl) HA_10 HC ?_
                  intro w_13 HA_13
                  refine lm_f (d := some 58) (by kernel_rfl) rfl (by kernel_rfl) (by kernel_rfl) (by kernel_rfl) (c_ldn Try.isAgg23 Try.sizeOf23 (by kernel_rfl) H) (fun x58 H => ?_)
                  refine lm_dc (d := some 59) (by kernel_rfl) rfl (by kernel_rfl) (by kernel_rfl) HA_13 (d_slit (zc := #[]) Try.underlying24 Try.sizeOf3 (by decide) (.inl ⟨(by kernel_rfl), (by kernel_rfl)⟩) (by kernel_rfl) (by kernel_rfl) H) (fun x59 h_9 w_14 H HA_14 => ?_)
                  refine lm_al (x := x1) (d := some 60) (by kernel_rfl) rfl (by kernel_rfl) (by kernel_rfl) (al_move (by kernel_rfl)) ?_
                  refine lm_dc (d := some 61) (by kernel_rfl) rfl (by kernel_rfl) (by kernel_rfl) HA_14 (d_app (z := #[.int .i64 0]) Try.underlying24 Try.underlying24 (.inl ⟨_, rfl⟩) Try.typeInfo3 (by kernel_rfl) Try.sizeOf3 Try.zeroValue3 (by kernel_rfl) (by kernel_rfl) (by kernel_rfl) H) (fun x61 h_10 w_15 H HA_15 => ?_)
                  refine lm_al (x := x2) (d := some 62) (by kernel_rfl) rfl (by kernel_rfl) (by kernel_rfl) (al_move (by kernel_rfl)) ?_
                  refine lm_dc (d := some 63) (by kernel_rfl) rfl (by kernel_rfl) (by kernel_rfl) HA_15 (d_app (z := #[.int .i64 0]) Try.underlying24 Try.underlying24 (.inl ⟨_, rfl⟩) Try.typeInfo3 (by kernel_rfl) Try.sizeOf3 Try.zeroValue3 (by kernel_rfl) (by kernel_rfl) (by kernel_rfl) H) (fun x63 h_11 w_16 H HA_16 => ?_)
                  refine lm_fr (b := ⟨([x0, x1, x2, x3, undef, undef, (D_4 0), x7, x8, x1, x10, x11, x11, (D 0), (D 1), (D 2), x16, x16, (D_1 0), (D_1 1), (D_1 2), x21, x21, (D_2 0), (D_2 1), (D_2 2), x26, x26, (D_3 0), (D_3 1), (D_3 2), x31, undef, x33, x1, x35, x36, x37, x38, x8, x1, x41, x42, (D_4 5), (D_4 6), (D_4 7), (D_4 8), (D_4 9), (D_4 10), (D_4 11)] ++ [(D_4 12), (D_4 13), (D_4 14), (D_4 15), (D_4 16), (D_4 17), (D_4 18), (D_4 19), x58, x59, x1, x61, x2, x63, undef, undef, undef, undef, undef, undef, undef, undef]).toArray, []⟩) (by kernel_rfl) ?_
                  refine lm_dc (d := some 64) (by kernel_rfl) rfl (by kernel_rfl) (by kernel_rfl) HA_16 (d_call (by kernel_rfl) (by kernel_rfl) H) (fun x64 h_12 w_17 H HA_17 => ?_)
                  refine lm_f (d := some 65) (by kernel_rfl) rfl (by kernel_rfl) (by kernel_rfl) (by kernel_rfl) (c_ldn Try.isAgg23 Try.sizeOf23 (by kernel_rfl) H) (fun x65 H => ?_)
                  refine lm_al (x := x2) (d := some 66) (by kernel_rfl) rfl (by kernel_rfl) (by kernel_rfl) (al_move (by kernel_rfl)) ?_
                  refine lm_d (d := some 67) (by kernel_rfl) rfl (by kernel_rfl) (by kernel_rfl) (by kernel_rfl) HA_17 (d_call (by kernel_rfl) (by kernel_rfl) H) (fun x67 h_13 w_18 H HA_18 => ?_)
                  refine lm_p (d := some 68) (by kernel_rfl) rfl (by kernel_rfl) (by kernel_rfl) (p_eqlAgg (eqT_23) (by kernel_rfl) (by kernel_rfl) H) (fun x68 H => ?_)
                  refine lm_al (x := x68) (d := some 69) (by kernel_rfl) rfl (by kernel_rfl) (by kernel_rfl) (al_move (by kernel_rfl)) ?_
                  refine lm_fr (b := ⟨([x0, x1, x2, x3, undef, undef, (D_4 0), x7, x8, x1, x10, x11, x11, (D 0), (D 1), (D 2), x16, x16, (D_1 0), (D_1 1), (D_1 2), x21, x21, (D_2 0), (D_2 1), (D_2 2), x26, x26, (D_3 0), (D_3 1), (D_3 2), x31, undef, x33, x1, x35, x36, x37, x38, x8, x1, x41, x42, (D_4 5), (D_4 6), (D_4 7), (D_4 8), (D_4 9), (D_4 10), (D_4 11)] ++ [(D_4 12), (D_4 13), (D_4 14), (D_4 15), (D_4 16), (D_4 17), (D_4 18), (D_4 19), x58, x59, x1, x61, x2, x63, x64, x65, x2, x67, x68, x68, undef, undef]).toArray, []⟩) (by kernel_rfl) ?_
                  refine lm_andh [(), ()] (fun K a w => ∃ (D_6 : Nat → Value) (x71 : Value) (h_14 : Heap), a = ⟨([x0, x1, x2, x3, undef, undef, (D_4 0), x7, x8, x1, x10, x11, x11, (D 0), (D 1), (D 2), x16, x16, (D_1 0), (D_1 1), (D_1 2), x21, x21, (D_2 0), (D_2 1), (D_2 2), x26, x26, (D_3 0), (D_3 1), (D_3 2), x31, undef, x33, x1, x35, x36, x37, x38, x8, x1, x41, x42, (D_4 5), (D_4 6), (D_4 7), (D_4 8), (D_4 9), (D_4 10), (D_4 11)] ++ [(D_4 12), (D_4 13), (D_4 14), (D_4 15), (D_4 16), (D_4 17), (D_4 18), (D_4 19), x58, x59, x1, x61, x2, x63, x64, x65, x2, x67, x68, x68, (D_6 0), x71]).toArray, []⟩ ∧ At w0 w h_14 ∧ K x71 h_14) H (fun hb_1 H => ?_) (fun hb_1 H => ?_) ?_
                  · refine lm_d (d := some 70) (by kernel_rfl) rfl (by kernel_rfl) (by kernel_rfl) (by rw [hb_1]; kernel_rfl) HA_18 (d_call (by kernel_rfl) (by kernel_rfl) H) (fun x70 h_15 w_20 H HA_20 => ?_)
                    refine lm_al (x := x70) (d := some 71) (by kernel_rfl) rfl (by kernel_rfl) (by kernel_rfl) (al_pick_t (by rw [hb_1]; kernel_rfl) (by kernel_rfl)) ?_
                    refine lm_nil ?_
                    exact ⟨(fun i => ([x70]).getD i undef), x70, h_15, by kernel_rfl, HA_20, H⟩
                  · refine lm_skip (d := some 70) (by kernel_rfl) rfl (by rw [hb_1]; kernel_rfl) ?_
                    refine lm_al (x := (.bool false)) (d := some 71) (by kernel_rfl) rfl (by kernel_rfl) (by kernel_rfl) (al_pick_f (by rw [hb_1]; kernel_rfl) (by kernel_rfl)) ?_
                    refine lm_nil ?_
                    exact ⟨(fun i => ([undef]).getD i undef), (.bool false), h_13, by kernel_rfl, HA_18, H⟩
                  · rintro _ w_19 ⟨D_6, x71, h_14, rfl, HA_19, H⟩
                    refine lm_al (x := x71) (d := some 6) (by kernel_rfl) rfl (by kernel_rfl) (by kernel_rfl) (al_assign (by kernel_rfl)) ?_
                    refine lm_nil ?_
                    refine then_normal ?_
                    refine fr_eq (b := ⟨([x0, x1, x2, x3, undef, undef, x71, x7, x8, x1, x10, x11, x11, (D 0), (D 1), (D 2), x16, x16, (D_1 0), (D_1 1), (D_1 2), x21, x21, (D_2 0), (D_2 1), (D_2 2), x26, x26, (D_3 0), (D_3 1), (D_3 2), x31, undef, x33, x1, x35, x36, x37, x38, x8, x1, x41, x42, (D_4 5), (D_4 6), (D_4 7), (D_4 8), (D_4 9), (D_4 10), (D_4 11)] ++ [(D_4 12), (D_4 13), (D_4 14), (D_4 15), (D_4 16), (D_4 17), (D_4 18), (D_4 19), x58, x59, x1, x61, x2, x63, x64, x65, x2, x67, x68, x68, (D_6 0), x71]).toArray, []⟩) (by kernel_rfl) ?_
                    refine wp_ret ?_
                    exact end1 (Try.results3) (by kernel_rfl) (by kernel_rfl) HA_19 H _ (.inr rfl)

end Go.Proofs.Ytkagmlpnidijaaa
