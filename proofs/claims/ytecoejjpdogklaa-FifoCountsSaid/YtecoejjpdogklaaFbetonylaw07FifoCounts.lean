/- The shallow reading of one function, and that the function does it. Written by a program. -/
import Derived.Test.YtecoejjpdogklaaFnC
set_option linter.unusedVariables false
namespace Go.Proofs.Ytecoejjpdogklaa
open Go Go.HW

def betonylaw07_FifoCounts_j2 (R : Value → Heap → Prop) (next : Value → Value → Value → Value → Heap → Prop) (x23 x11 x8_1 x9_1 x10_1 : Value) (h_3 : Heap) : Prop :=
  sAdd .i64 x9_1 x10_1 fun x69 =>
  fifo_Queue_Len_c x23 h_3 fun x71 h_4 => 
  sAdd .i64 x69 x71 fun x72 =>
  fifo_Queue_Lost_c x23 h_4 fun x74 h_5 => 
  sAdd .i64 x72 x74 fun x75 =>
  sNe x8_1 x75 fun x76 =>
  sIf x76 (R (.bool false) h_5) (sAdd .i64 x11 (.int .i64 1) fun x31 =>
  next x8_1 x9_1 x10_1 x31 h_5)
def betonylaw07_FifoCounts_l1 (R : Value → Heap → Prop) (x2 x23 : Value) (next : Value → Value → Value → Value → Heap → Prop) (x8 x9 x10 x11 : Value) (h_2 : Heap) : Prop :=
  sLen x2 fun x28 =>
  sLt x11 x28 fun x29 =>
  sIf x29 (sIxS x2 x11 2 fun x34 =>
  sOff x34 0 fun x35 =>
  sLd h_2 x35 fun x36 =>
  sEq x36 (.int .i64 0) fun x38 =>
  sIf x38 (sIxS x2 x11 2 fun x42 =>
  sOff x42 1 fun x43 =>
  sLd h_2 x43 fun x44 =>
  fifo_Queue_Put_c x23 x44 h_2 fun x45 h_6 => 
  sAdd .i64 x8 (.int .i64 1) fun x47 =>
  betonylaw07_FifoCounts_j2 R next x23 x11 x47 x9 x10 h_6) (sEq x36 (.int .i64 1) fun x49 =>
  sIf x49 (fifo_Queue_Take_c x23 h_2 fun x52 h_7 => 
  sTup x52 0 fun x53 =>
  sTup x52 1 fun x54 =>
  sIf x54 (sAdd .i64 x9 (.int .i64 1) fun x57 =>
  betonylaw07_FifoCounts_j2 R next x23 x11 x8 x57 x10 h_7) (betonylaw07_FifoCounts_j2 R next x23 x11 x8 x9 x10 h_7)) (sEq x36 (.int .i64 2) fun x59 =>
  sIf x59 (fifo_Queue_Len_c x23 h_2 fun x62 h_8 => 
  sAdd .i64 x10 x62 fun x63 =>
  fifo_Queue_Clear_c x23 h_8 fun x65 h_9 => 
  betonylaw07_FifoCounts_j2 R next x23 x11 x8 x9 x63 h_9) (betonylaw07_FifoCounts_j2 R next x23 x11 x8 x9 x10 h_2)))) (betonylaw07_awake_c  h_2 fun x77 h_10 => 
  R x77 h_10)
def betonylaw07_FifoCounts_S (x0 x1 x2 : Value) (h : Heap) (R : Value → Heap → Prop) : Prop :=
  sLen x2 fun x15 =>
  sGt x15 (.int .i64 100) fun x16 =>
  sIf x16 (betonylaw07_awake_c  h fun x17 h => 
  R x17 h) (sConv .i64 x0 fun x19 =>
  sRem .i64 x19 (.int .i64 20) fun x20 =>
  sAdd .i64 (.int .i64 1) x20 fun x21 =>
  fifo_New_c x21 x1 h fun x23 h_1 => 
  sEqlNil x23 fun x25 =>
  sIf x25 (R (.bool false) h_1) (sLoop (S := Value × Value × Value × Value) (fun next s h => betonylaw07_FifoCounts_l1 R x2 x23 (fun x8' x9' x10' x11' h => next (x8', x9', x10', x11') h) s.1 s.2.1 s.2.2.1 s.2.2.2 h) ((.int .i64 0), (.int .i64 0), (.int .i64 0), (.int .i64 0)) h_1))
set_option maxRecDepth 100000 in
theorem betonylaw07_FifoCounts_runs {x0 x1 x2 : Value} {h : Heap} {R : Value → Heap → Prop} (H : betonylaw07_FifoCounts_S x0 x1 x2 h R) : betonylaw07_FifoCounts_c x0 x1 x2 h R := by
  unfold betonylaw07_FifoCounts_S at H
  refine runs_of (b := ⟨([x0, x1, x2, undef, undef, undef, undef, undef, undef, undef, undef, undef, undef, undef, undef, undef, undef, undef, undef, undef, undef, undef, undef, undef, undef, undef, undef, undef, undef, undef, undef, undef, undef, undef, undef, undef, undef, undef, undef, undef, undef, undef, undef, undef, undef, undef, undef, undef, undef, undef] ++ [undef, undef, undef, undef, undef, undef, undef, undef, undef, undef, undef, undef, undef, undef, undef, undef, undef, undef, undef, undef, undef, undef, undef, undef, undef, undef, undef, undef]).toArray, []⟩) Try.call12 Try.func12 rfl (by kernel_rfl) (fun w0 HA => ?_)
  refine wp_seq ?_
  refine lwp_list ?_
  refine ls_assign (x := (.bool false)) (by kernel_rfl) (by kernel_rfl) ?_
  refine ls_nil ?_
  refine then_normal ?_
  refine fr_eq (b := ⟨([x0, x1, x2, undef, undef, undef, (.bool false), undef, undef, undef, undef, undef, undef, undef, undef, undef, undef, undef, undef, undef, undef, undef, undef, undef, undef, undef, undef, undef, undef, undef, undef, undef, undef, undef, undef, undef, undef, undef, undef, undef, undef, undef, undef, undef, undef, undef, undef, undef, undef, undef] ++ [undef, undef, undef, undef, undef, undef, undef, undef, undef, undef, undef, undef, undef, undef, undef, undef, undef, undef, undef, undef, undef, undef, undef, undef, undef, undef, undef, undef]).toArray, []⟩) (by kernel_rfl) ?_
  refine wp_seq ?_
  refine wp_seq ?_
  refine lwp_list ?_
  refine ls_move (x := x2) (by kernel_rfl) (by kernel_rfl) ?_
  refine ls_p (d := some 15) (by kernel_rfl) (by kernel_rfl) (p_len Try.underlying73 (by kernel_rfl) H) (fun x15 H => ?_)
  refine ls_p (d := some 16) (by kernel_rfl) (by kernel_rfl) (p_sGt (by kernel_rfl) (by kernel_rfl) H) (fun x16 H => ?_)
  refine ls_nil ?_
  refine then_normal ?_
  refine fr_eq (b := ⟨([x0, x1, x2, undef, undef, undef, (.bool false), undef, undef, undef, undef, undef, undef, undef, x2, x15, x16, undef, undef, undef, undef, undef, undef, undef, undef, undef, undef, undef, undef, undef, undef, undef, undef, undef, undef, undef, undef, undef, undef, undef, undef, undef, undef, undef, undef, undef, undef, undef, undef, undef] ++ [undef, undef, undef, undef, undef, undef, undef, undef, undef, undef, undef, undef, undef, undef, undef, undef, undef, undef, undef, undef, undef, undef, undef, undef, undef, undef, undef, undef]).toArray, []⟩) (by kernel_rfl) ?_
  refine wp_if rfl H (fun H => ?_) (fun H => ?_)
  · refine wp_seq ?_
    refine lwp_list ?_
    refine ls_d (d := some 17) (by kernel_rfl) (by kernel_rfl) HA (d_call (by kernel_rfl) (by kernel_rfl) H) (fun x17 h w H HA => ?_)
    refine ls_assign (x := x17) (by kernel_rfl) (by kernel_rfl) ?_
    refine ls_nil ?_
    refine then_normal ?_
    refine fr_eq (b := ⟨([x0, x1, x2, undef, undef, undef, x17, undef, undef, undef, undef, undef, undef, undef, x2, x15, x16, x17, undef, undef, undef, undef, undef, undef, undef, undef, undef, undef, undef, undef, undef, undef, undef, undef, undef, undef, undef, undef, undef, undef, undef, undef, undef, undef, undef, undef, undef, undef, undef, undef] ++ [undef, undef, undef, undef, undef, undef, undef, undef, undef, undef, undef, undef, undef, undef, undef, undef, undef, undef, undef, undef, undef, undef, undef, undef, undef, undef, undef, undef]).toArray, []⟩) (by kernel_rfl) ?_
    refine wp_ret ?_
    refine then_ret ?_
    exact end1 (Try.results12) (by kernel_rfl) (by kernel_rfl) HA H _ (.inr rfl)
  · refine wp_skip ?_
    refine then_normal ?_
    refine fr_eq (b := ⟨([x0, x1, x2, undef, undef, undef, (.bool false), undef, undef, undef, undef, undef, undef, undef, x2, x15, x16, undef, undef, undef, undef, undef, undef, undef, undef, undef, undef, undef, undef, undef, undef, undef, undef, undef, undef, undef, undef, undef, undef, undef, undef, undef, undef, undef, undef, undef, undef, undef, undef, undef] ++ [undef, undef, undef, undef, undef, undef, undef, undef, undef, undef, undef, undef, undef, undef, undef, undef, undef, undef, undef, undef, undef, undef, undef, undef, undef, undef, undef, undef]).toArray, []⟩) (by kernel_rfl) ?_
    refine wp_seq ?_
    refine lwp_list ?_
    refine ls_move (x := x0) (by kernel_rfl) (by kernel_rfl) ?_
    refine ls_p (d := some 19) (by kernel_rfl) (by kernel_rfl) (p_conv Try.underlying5 Try.underlying3 (by kernel_rfl) H) (fun x19 H => ?_)
    refine ls_p (d := some 20) (by kernel_rfl) (by kernel_rfl) (p_rem (by kernel_rfl) (by kernel_rfl) H) (fun x20 H => ?_)
    refine ls_p (d := some 21) (by kernel_rfl) (by kernel_rfl) (p_add (by kernel_rfl) (by kernel_rfl) H) (fun x21 H => ?_)
    refine ls_move (x := x1) (by kernel_rfl) (by kernel_rfl) ?_
    refine ls_d (d := some 23) (by kernel_rfl) (by kernel_rfl) HA (d_call (by kernel_rfl) (by kernel_rfl) H) (fun x23 h_1 w_1 H HA_1 => ?_)
    refine ls_fr (b := ⟨([x0, x1, x2, undef, undef, undef, (.bool false), undef, undef, undef, undef, undef, undef, undef, x2, x15, x16, undef, x0, x19, x20, x21, x1, x23, undef, undef, undef, undef, undef, undef, undef, undef, undef, undef, undef, undef, undef, undef, undef, undef, undef, undef, undef, undef, undef, undef, undef, undef, undef, undef] ++ [undef, undef, undef, undef, undef, undef, undef, undef, undef, undef, undef, undef, undef, undef, undef, undef, undef, undef, undef, undef, undef, undef, undef, undef, undef, undef, undef, undef]).toArray, []⟩) (by kernel_rfl) ?_
    refine ls_assign (x := x23) (by kernel_rfl) (by kernel_rfl) ?_
    refine ls_nil ?_
    refine then_normal ?_
    refine fr_eq (b := ⟨([x0, x1, x2, undef, undef, undef, (.bool false), x23, undef, undef, undef, undef, undef, undef, x2, x15, x16, undef, x0, x19, x20, x21, x1, x23, undef, undef, undef, undef, undef, undef, undef, undef, undef, undef, undef, undef, undef, undef, undef, undef, undef, undef, undef, undef, undef, undef, undef, undef, undef, undef] ++ [undef, undef, undef, undef, undef, undef, undef, undef, undef, undef, undef, undef, undef, undef, undef, undef, undef, undef, undef, undef, undef, undef, undef, undef, undef, undef, undef, undef]).toArray, []⟩) (by kernel_rfl) ?_
    refine wp_seq ?_
    refine wp_seq ?_
    refine lwp_list ?_
    refine ls_move (x := x23) (by kernel_rfl) (by kernel_rfl) ?_
    refine ls_p (d := some 25) (by kernel_rfl) (by kernel_rfl) (p_eqlNil Try.underlying67 (by kernel_rfl) (by kernel_rfl) H) (fun x25 H => ?_)
    refine ls_nil ?_
    refine then_normal ?_
    refine fr_eq (b := ⟨([x0, x1, x2, undef, undef, undef, (.bool false), x23, undef, undef, undef, undef, undef, undef, x2, x15, x16, undef, x0, x19, x20, x21, x1, x23, x23, x25, undef, undef, undef, undef, undef, undef, undef, undef, undef, undef, undef, undef, undef, undef, undef, undef, undef, undef, undef, undef, undef, undef, undef, undef] ++ [undef, undef, undef, undef, undef, undef, undef, undef, undef, undef, undef, undef, undef, undef, undef, undef, undef, undef, undef, undef, undef, undef, undef, undef, undef, undef, undef, undef]).toArray, []⟩) (by kernel_rfl) ?_
    refine wp_if rfl H (fun H => ?_) (fun H => ?_)
    · refine wp_seq ?_
      refine lwp_list ?_
      refine ls_assign (x := (.bool false)) (by kernel_rfl) (by kernel_rfl) ?_
      refine ls_nil ?_
      refine then_normal ?_
      refine fr_eq (b := ⟨([x0, x1, x2, undef, undef, undef, (.bool false), x23, undef, undef, undef, undef, undef, undef, x2, x15, x16, undef, x0, x19, x20, x21, x1, x23, x23, x25, undef, undef, undef, undef, undef, undef, undef, undef, undef, undef, undef, undef, undef, undef, undef, undef, undef, undef, undef, undef, undef, undef, undef, undef] ++ [undef, undef, undef, undef, undef, undef, undef, undef, undef, undef, undef, undef, undef, undef, undef, undef, undef, undef, undef, undef, undef, undef, undef, undef, undef, undef, undef, undef]).toArray, []⟩) (by kernel_rfl) ?_
      refine wp_ret ?_
      refine then_ret ?_
      exact end1 (Try.results12) (by kernel_rfl) (by kernel_rfl) HA_1 H _ (.inr rfl)
    · refine wp_skip ?_
      refine then_normal ?_
      refine fr_eq (b := ⟨([x0, x1, x2, undef, undef, undef, (.bool false), x23, undef, undef, undef, undef, undef, undef, x2, x15, x16, undef, x0, x19, x20, x21, x1, x23, x23, x25, undef, undef, undef, undef, undef, undef, undef, undef, undef, undef, undef, undef, undef, undef, undef, undef, undef, undef, undef, undef, undef, undef, undef, undef] ++ [undef, undef, undef, undef, undef, undef, undef, undef, undef, undef, undef, undef, undef, undef, undef, undef, undef, undef, undef, undef, undef, undef, undef, undef, undef, undef, undef, undef]).toArray, []⟩) (by kernel_rfl) ?_
      refine wp_seq ?_
      refine lwp_list ?_
      refine ls_assign (x := (.int .i64 0)) (by kernel_rfl) (by kernel_rfl) ?_
      refine ls_assign (x := (.int .i64 0)) (by kernel_rfl) (by kernel_rfl) ?_
      refine ls_assign (x := (.int .i64 0)) (by kernel_rfl) (by kernel_rfl) ?_
      refine ls_nil ?_
      refine then_normal ?_
      refine fr_eq (b := ⟨([x0, x1, x2, undef, undef, undef, (.bool false), x23, (.int .i64 0), (.int .i64 0), (.int .i64 0), undef, undef, undef, x2, x15, x16, undef, x0, x19, x20, x21, x1, x23, x23, x25, undef, undef, undef, undef, undef, undef, undef, undef, undef, undef, undef, undef, undef, undef, undef, undef, undef, undef, undef, undef, undef, undef, undef, undef] ++ [undef, undef, undef, undef, undef, undef, undef, undef, undef, undef, undef, undef, undef, undef, undef, undef, undef, undef, undef, undef, undef, undef, undef, undef, undef, undef, undef, undef]).toArray, []⟩) (by kernel_rfl) ?_
      refine wp_seq ?_
      refine wp_seq ?_
      refine lwp_list ?_
      refine ls_assign (x := (.int .i64 0)) (by kernel_rfl) (by kernel_rfl) ?_
      refine ls_nil ?_
      refine then_normal ?_
      refine fr_eq (b := ⟨([x0, x1, x2, undef, undef, undef, (.bool false), x23, (.int .i64 0), (.int .i64 0), (.int .i64 0), (.int .i64 0), undef, undef, x2, x15, x16, undef, x0, x19, x20, x21, x1, x23, x23, x25, undef, undef, undef, undef, undef, undef, undef, undef, undef, undef, undef, undef, undef, undef, undef, undef, undef, undef, undef, undef, undef, undef, undef, undef] ++ [undef, undef, undef, undef, undef, undef, undef, undef, undef, undef, undef, undef, undef, undef, undef, undef, undef, undef, undef, undef, undef, undef, undef, undef, undef, undef, undef, undef]).toArray, []⟩) (by kernel_rfl) ?_
      refine wp_block ?_
      obtain ⟨I, m, H0, HB⟩ := H
      refine wp_loop (fun a w => ∃ (D : Nat → Value) (x8 x9 x10 x11 : Value) (h_2 : Heap), a = ⟨([x0, x1, x2, undef, undef, undef, (D 0), x23, x8, x9, x10, x11, (D 1), (D 2), x2, x15, x16, undef, x0, x19, x20, x21, x1, x23, x23, x25, (D 3), (D 4), (D 5), (D 6), (D 7), (D 8), (D 9), (D 10), (D 11), (D 12), (D 13), (D 14), (D 15), (D 16), (D 17), (D 18), (D 19), (D 20), (D 21), (D 22), (D 23), (D 24), (D 25), (D 26)] ++ [(D 27), (D 28), (D 29), (D 30), (D 31), (D 32), (D 33), (D 34), (D 35), (D 36), (D 37), (D 38), (D 39), (D 40), (D 41), (D 42), (D 43), (D 44), (D 45), (D 46), (D 47), (D 48), (D 49), (D 50), (D 51), (D 52), (D 53), undef]).toArray, []⟩ ∧ At w0 w h_2 ∧ I (x8, x9, x10, x11) h_2) (fun a w => m ((a.tmps.getD 8 undef), (a.tmps.getD 9 undef), (a.tmps.getD 10 undef), (a.tmps.getD 11 undef)) w.heap) ?_ ?_
      · exact ⟨(fun i => ([(.bool false), undef, undef, undef, undef, undef, undef, undef, undef, undef, undef, undef, undef, undef, undef, undef, undef, undef, undef, undef, undef, undef, undef, undef, undef, undef, undef, undef, undef, undef, undef, undef, undef, undef, undef, undef, undef, undef, undef, undef, undef, undef, undef, undef, undef, undef, undef, undef, undef, undef] ++ [undef, undef, undef, undef]).getD i undef), (.int .i64 0), (.int .i64 0), (.int .i64 0), (.int .i64 0), h_1, by kernel_rfl, HA_1, H0⟩
      · rintro _ w_2 ⟨D, x8, x9, x10, x11, h_2, rfl, HA_2, HI⟩
        have H : betonylaw07_FifoCounts_l1 R x2 x23 (fun x8' x9' x10' x11' h' => I (x8', x9', x10', x11') h' ∧ m (x8', x9', x10', x11') h' < m (x8, x9, x10, x11) h_2) x8 x9 x10 x11 h_2 := HB (x8, x9, x10, x11) h_2 HI
        clear HB H0 HI
        unfold betonylaw07_FifoCounts_l1 at H
        refine wp_seq ?_
        refine wp_seq ?_
        refine lwp_list ?_
        refine ls_move (x := x11) (by kernel_rfl) (by kernel_rfl) ?_
        refine ls_move (x := x2) (by kernel_rfl) (by kernel_rfl) ?_
        refine ls_p (d := some 28) (by kernel_rfl) (by kernel_rfl) (p_len Try.underlying73 (by kernel_rfl) H) (fun x28 H => ?_)
        refine ls_p (d := some 29) (by kernel_rfl) (by kernel_rfl) (p_sLt (by kernel_rfl) (by kernel_rfl) H) (fun x29 H => ?_)
        refine ls_nil ?_
        refine then_normal ?_
        refine fr_eq (b := ⟨([x0, x1, x2, undef, undef, undef, (D 0), x23, x8, x9, x10, x11, (D 1), (D 2), x2, x15, x16, undef, x0, x19, x20, x21, x1, x23, x23, x25, x11, x2, x28, x29, (D 7), (D 8), (D 9), (D 10), (D 11), (D 12), (D 13), (D 14), (D 15), (D 16), (D 17), (D 18), (D 19), (D 20), (D 21), (D 22), (D 23), (D 24), (D 25), (D 26)] ++ [(D 27), (D 28), (D 29), (D 30), (D 31), (D 32), (D 33), (D 34), (D 35), (D 36), (D 37), (D 38), (D 39), (D 40), (D 41), (D 42), (D 43), (D 44), (D 45), (D 46), (D 47), (D 48), (D 49), (D 50), (D 51), (D 52), (D 53), undef]).toArray, []⟩) (by kernel_rfl) ?_
        refine wp_if rfl H (fun H => ?_) (fun H => ?_)
        · refine wp_skip ?_
          refine then_normal ?_
          refine fr_eq (b := ⟨([x0, x1, x2, undef, undef, undef, (D 0), x23, x8, x9, x10, x11, (D 1), (D 2), x2, x15, x16, undef, x0, x19, x20, x21, x1, x23, x23, x25, x11, x2, x28, x29, (D 7), (D 8), (D 9), (D 10), (D 11), (D 12), (D 13), (D 14), (D 15), (D 16), (D 17), (D 18), (D 19), (D 20), (D 21), (D 22), (D 23), (D 24), (D 25), (D 26)] ++ [(D 27), (D 28), (D 29), (D 30), (D 31), (D 32), (D 33), (D 34), (D 35), (D 36), (D 37), (D 38), (D 39), (D 40), (D 41), (D 42), (D 43), (D 44), (D 45), (D 46), (D 47), (D 48), (D 49), (D 50), (D 51), (D 52), (D 53), undef]).toArray, []⟩) (by kernel_rfl) ?_
          refine wp_seq ?_
          refine wp_block ?_
          refine wp_seq ?_
          refine wp_seq ?_
          refine lwp_list ?_
          refine ls_move (x := x2) (by kernel_rfl) (by kernel_rfl) ?_
          refine ls_move (x := x11) (by kernel_rfl) (by kernel_rfl) ?_
          refine ls_p (d := some 34) (by kernel_rfl) (by kernel_rfl) (p_ixs Try.underlying73 Try.sizeOf75 (by kernel_rfl) (by kernel_rfl) H) (fun x34 H => ?_)
          refine ls_p (d := some 35) (by kernel_rfl) (by kernel_rfl) (p_off Try.underlying75 rfl (fun w => ⟨_, Try.sizeOf3 w⟩) rfl (by kernel_rfl) H) (fun x35 H => ?_)
          refine ls_y (d := some 36) (by kernel_rfl) (by kernel_rfl) HA_2 (y_ld Try.isAgg3 (by kernel_rfl) H) (fun x36 H => ?_)
          refine ls_nil ?_
          refine then_normal ?_
          refine fr_eq (b := ⟨([x0, x1, x2, undef, undef, undef, (D 0), x23, x8, x9, x10, x11, (D 1), (D 2), x2, x15, x16, undef, x0, x19, x20, x21, x1, x23, x23, x25, x11, x2, x28, x29, (D 7), (D 8), x2, x11, x34, x35, x36, (D 14), (D 15), (D 16), (D 17), (D 18), (D 19), (D 20), (D 21), (D 22), (D 23), (D 24), (D 25), (D 26)] ++ [(D 27), (D 28), (D 29), (D 30), (D 31), (D 32), (D 33), (D 34), (D 35), (D 36), (D 37), (D 38), (D 39), (D 40), (D 41), (D 42), (D 43), (D 44), (D 45), (D 46), (D 47), (D 48), (D 49), (D 50), (D 51), (D 52), (D 53), undef]).toArray, []⟩) (by kernel_rfl) ?_
          refine wp_join (fun a w => ∃ (D_1 : Nat → Value) (x8_1 x9_1 x10_1 : Value) (h_3 : Heap), a = ⟨([x0, x1, x2, undef, undef, undef, (D 0), x23, x8_1, x9_1, x10_1, x11, (D_1 0), (D_1 1), x2, x15, x16, undef, x0, x19, x20, x21, x1, x23, x23, x25, x11, x2, x28, x29, (D 7), (D 8), x2, x11, x34, x35, x36, (D_1 2), (D_1 3), (D_1 4), (D_1 5), (D_1 6), (D_1 7), (D_1 8), (D_1 9), (D_1 10), (D_1 11), (D_1 12), (D_1 13), (D_1 14)] ++ [(D_1 15), (D_1 16), (D_1 17), (D_1 18), (D_1 19), (D_1 20), (D_1 21), (D_1 22), (D_1 23), (D_1 24), (D_1 25), (D_1 26), (D_1 27), (D_1 28), (D_1 29), (D_1 30), (D 43), (D 44), (D 45), (D 46), (D 47), (D 48), (D 49), (D 50), (D 51), (D 52), (D 53), undef]).toArray, []⟩ ∧ At w0 w h_3 ∧ betonylaw07_FifoCounts_j2 R (fun x8' x9' x10' x11' h' => I (x8', x9', x10', x11') h' ∧ m (x8', x9', x10', x11') h' < m (x8, x9, x10, x11) h_2) x23 x11 x8_1 x9_1 x10_1 h_3) ?_ ?_
          · refine wp_block ?_
            refine wp_seq ?_
            refine lwp_list ?_
            refine ls_p (d := some 38) (by kernel_rfl) (by kernel_rfl) (p_sEq (by kernel_rfl) (by kernel_rfl) H) (fun x38 H => ?_)
            refine ls_assign (x := x38) (by kernel_rfl) (by kernel_rfl) ?_
            refine ls_nil ?_
            refine then_normal ?_
            refine fr_eq (b := ⟨([x0, x1, x2, undef, undef, undef, (D 0), x23, x8, x9, x10, x11, (D 1), (D 2), x2, x15, x16, undef, x0, x19, x20, x21, x1, x23, x23, x25, x11, x2, x28, x29, (D 7), (D 8), x2, x11, x34, x35, x36, x38, x38, (D 16), (D 17), (D 18), (D 19), (D 20), (D 21), (D 22), (D 23), (D 24), (D 25), (D 26)] ++ [(D 27), (D 28), (D 29), (D 30), (D 31), (D 32), (D 33), (D 34), (D 35), (D 36), (D 37), (D 38), (D 39), (D 40), (D 41), (D 42), (D 43), (D 44), (D 45), (D 46), (D 47), (D 48), (D 49), (D 50), (D 51), (D 52), (D 53), undef]).toArray, []⟩) (by kernel_rfl) ?_
            refine wp_if rfl H (fun H => ?_) (fun H => ?_)
            · refine wp_seq ?_
              refine lwp_list ?_
              refine ls_move (x := x23) (by kernel_rfl) (by kernel_rfl) ?_
              refine ls_move (x := x2) (by kernel_rfl) (by kernel_rfl) ?_
              refine ls_move (x := x11) (by kernel_rfl) (by kernel_rfl) ?_
              refine ls_p (d := some 42) (by kernel_rfl) (by kernel_rfl) (p_ixs Try.underlying73 Try.sizeOf75 (by kernel_rfl) (by kernel_rfl) H) (fun x42 H => ?_)
              refine ls_p (d := some 43) (by kernel_rfl) (by kernel_rfl) (p_off Try.underlying75 rfl (fun w => ⟨_, Try.sizeOf3 w⟩) rfl (by kernel_rfl) H) (fun x43 H => ?_)
              refine ls_y (d := some 44) (by kernel_rfl) (by kernel_rfl) HA_2 (y_ld Try.isAgg3 (by kernel_rfl) H) (fun x44 H => ?_)
              refine ls_fr (b := ⟨([x0, x1, x2, undef, undef, undef, (D 0), x23, x8, x9, x10, x11, (D 1), (D 2), x2, x15, x16, undef, x0, x19, x20, x21, x1, x23, x23, x25, x11, x2, x28, x29, (D 7), (D 8), x2, x11, x34, x35, x36, x38, x38, x23, x2, x11, x42, x43, x44, (D 22), (D 23), (D 24), (D 25), (D 26)] ++ [(D 27), (D 28), (D 29), (D 30), (D 31), (D 32), (D 33), (D 34), (D 35), (D 36), (D 37), (D 38), (D 39), (D 40), (D 41), (D 42), (D 43), (D 44), (D 45), (D 46), (D 47), (D 48), (D 49), (D 50), (D 51), (D 52), (D 53), undef]).toArray, []⟩) (by kernel_rfl) ?_
              refine ls_d (d := some 45) (by kernel_rfl) (by kernel_rfl) HA_2 (d_call (by kernel_rfl) (by kernel_rfl) H) (fun x45 h_6 w_6 H HA_6 => ?_)
              refine ls_nil ?_
              refine then_normal ?_
              refine fr_eq (b := ⟨([x0, x1, x2, undef, undef, undef, (D 0), x23, x8, x9, x10, x11, (D 1), (D 2), x2, x15, x16, undef, x0, x19, x20, x21, x1, x23, x23, x25, x11, x2, x28, x29, (D 7), (D 8), x2, x11, x34, x35, x36, x38, x38, x23, x2, x11, x42, x43, x44, x45, (D 23), (D 24), (D 25), (D 26)] ++ [(D 27), (D 28), (D 29), (D 30), (D 31), (D 32), (D 33), (D 34), (D 35), (D 36), (D 37), (D 38), (D 39), (D 40), (D 41), (D 42), (D 43), (D 44), (D 45), (D 46), (D 47), (D 48), (D 49), (D 50), (D 51), (D 52), (D 53), undef]).toArray, []⟩) (by kernel_rfl) ?_
              refine lwp_list ?_
              refine ls_move (x := x8) (by kernel_rfl) (by kernel_rfl) ?_
              refine ls_p (d := some 47) (by kernel_rfl) (by kernel_rfl) (p_add (by kernel_rfl) (by kernel_rfl) H) (fun x47 H => ?_)
              refine ls_assign (x := x47) (by kernel_rfl) (by kernel_rfl) ?_
              refine ls_nil ?_
              refine block_normal ?_
              exact ⟨(fun i => ([(D 1), (D 2), x38, x38, x23, x2, x11, x42, x43, x44, x45, x8, x47, (D 25), (D 26), (D 27), (D 28), (D 29), (D 30), (D 31), (D 32), (D 33), (D 34), (D 35), (D 36), (D 37), (D 38), (D 39), (D 40), (D 41), (D 42)]).getD i undef), x47, x9, x10, h_6, by kernel_rfl, HA_6, H⟩
            · refine wp_seq ?_
              refine lwp_list ?_
              refine ls_p (d := some 49) (by kernel_rfl) (by kernel_rfl) (p_sEq (by kernel_rfl) (by kernel_rfl) H) (fun x49 H => ?_)
              refine ls_assign (x := x49) (by kernel_rfl) (by kernel_rfl) ?_
              refine ls_nil ?_
              refine then_normal ?_
              refine fr_eq (b := ⟨([x0, x1, x2, undef, undef, undef, (D 0), x23, x8, x9, x10, x11, (D 1), (D 2), x2, x15, x16, undef, x0, x19, x20, x21, x1, x23, x23, x25, x11, x2, x28, x29, (D 7), (D 8), x2, x11, x34, x35, x36, x38, x38, (D 16), (D 17), (D 18), (D 19), (D 20), (D 21), (D 22), (D 23), (D 24), x49, x49] ++ [(D 27), (D 28), (D 29), (D 30), (D 31), (D 32), (D 33), (D 34), (D 35), (D 36), (D 37), (D 38), (D 39), (D 40), (D 41), (D 42), (D 43), (D 44), (D 45), (D 46), (D 47), (D 48), (D 49), (D 50), (D 51), (D 52), (D 53), undef]).toArray, []⟩) (by kernel_rfl) ?_
              refine wp_if rfl H (fun H => ?_) (fun H => ?_)
              · refine wp_seq ?_
                refine lwp_list ?_
                refine ls_move (x := x23) (by kernel_rfl) (by kernel_rfl) ?_
                refine ls_d (d := some 52) (by kernel_rfl) (by kernel_rfl) HA_2 (d_call (by kernel_rfl) (by kernel_rfl) H) (fun x52 h_7 w_7 H HA_7 => ?_)
                refine ls_move (x := x52) (by kernel_rfl) (by kernel_rfl) ?_
                refine ls_p (d := some 53) (by kernel_rfl) (by kernel_rfl) (p_tup (by kernel_rfl) H) (fun x53 H => ?_)
                refine ls_p (d := some 54) (by kernel_rfl) (by kernel_rfl) (p_tup (by kernel_rfl) H) (fun x54 H => ?_)
                refine ls_assign (x := x53) (by kernel_rfl) (by kernel_rfl) ?_
                refine ls_fr (b := ⟨([x0, x1, x2, undef, undef, undef, (D 0), x23, x8, x9, x10, x11, x53, (D 2), x2, x15, x16, undef, x0, x19, x20, x21, x1, x23, x23, x25, x11, x2, x28, x29, (D 7), (D 8), x2, x11, x34, x35, x36, x38, x38, (D 16), (D 17), (D 18), (D 19), (D 20), (D 21), (D 22), (D 23), (D 24), x49, x49] ++ [x52, x23, x52, x53, x54, (D 32), (D 33), (D 34), (D 35), (D 36), (D 37), (D 38), (D 39), (D 40), (D 41), (D 42), (D 43), (D 44), (D 45), (D 46), (D 47), (D 48), (D 49), (D 50), (D 51), (D 52), (D 53), undef]).toArray, []⟩) (by kernel_rfl) ?_
                refine ls_assign (x := x54) (by kernel_rfl) (by kernel_rfl) ?_
                refine ls_nil ?_
                refine then_normal ?_
                refine fr_eq (b := ⟨([x0, x1, x2, undef, undef, undef, (D 0), x23, x8, x9, x10, x11, x53, x54, x2, x15, x16, undef, x0, x19, x20, x21, x1, x23, x23, x25, x11, x2, x28, x29, (D 7), (D 8), x2, x11, x34, x35, x36, x38, x38, (D 16), (D 17), (D 18), (D 19), (D 20), (D 21), (D 22), (D 23), (D 24), x49, x49] ++ [x52, x23, x52, x53, x54, (D 32), (D 33), (D 34), (D 35), (D 36), (D 37), (D 38), (D 39), (D 40), (D 41), (D 42), (D 43), (D 44), (D 45), (D 46), (D 47), (D 48), (D 49), (D 50), (D 51), (D 52), (D 53), undef]).toArray, []⟩) (by kernel_rfl) ?_
                refine wp_seq ?_
                refine lwp_list ?_
                refine ls_move (x := x54) (by kernel_rfl) (by kernel_rfl) ?_
                refine ls_nil ?_
                refine then_normal ?_
                refine fr_eq (b := ⟨([x0, x1, x2, undef, undef, undef, (D 0), x23, x8, x9, x10, x11, x53, x54, x2, x15, x16, undef, x0, x19, x20, x21, x1, x23, x23, x25, x11, x2, x28, x29, (D 7), (D 8), x2, x11, x34, x35, x36, x38, x38, (D 16), (D 17), (D 18), (D 19), (D 20), (D 21), (D 22), (D 23), (D 24), x49, x49] ++ [x52, x23, x52, x53, x54, x54, (D 33), (D 34), (D 35), (D 36), (D 37), (D 38), (D 39), (D 40), (D 41), (D 42), (D 43), (D 44), (D 45), (D 46), (D 47), (D 48), (D 49), (D 50), (D 51), (D 52), (D 53), undef]).toArray, []⟩) (by kernel_rfl) ?_
                refine wp_if rfl H (fun H => ?_) (fun H => ?_)
                · refine lwp_list ?_
                  refine ls_move (x := x9) (by kernel_rfl) (by kernel_rfl) ?_
                  refine ls_p (d := some 57) (by kernel_rfl) (by kernel_rfl) (p_add (by kernel_rfl) (by kernel_rfl) H) (fun x57 H => ?_)
                  refine ls_assign (x := x57) (by kernel_rfl) (by kernel_rfl) ?_
                  refine ls_nil ?_
                  refine block_normal ?_
                  exact ⟨(fun i => ([x53, x54, x38, x38, (D 16), (D 17), (D 18), (D 19), (D 20), (D 21), (D 22), (D 23), (D 24), x49, x49, x52, x23, x52, x53, x54, x54, x9, x57, (D 35), (D 36), (D 37), (D 38), (D 39), (D 40), (D 41), (D 42)]).getD i undef), x8, x57, x10, h_7, by kernel_rfl, HA_7, H⟩
                · refine wp_skip ?_
                  refine block_normal ?_
                  exact ⟨(fun i => ([x53, x54, x38, x38, (D 16), (D 17), (D 18), (D 19), (D 20), (D 21), (D 22), (D 23), (D 24), x49, x49, x52, x23, x52, x53, x54, x54, (D 33), (D 34), (D 35), (D 36), (D 37), (D 38), (D 39), (D 40), (D 41), (D 42)]).getD i undef), x8, x9, x10, h_7, by kernel_rfl, HA_7, H⟩
              · refine wp_seq ?_
                refine lwp_list ?_
                refine ls_p (d := some 59) (by kernel_rfl) (by kernel_rfl) (p_sEq (by kernel_rfl) (by kernel_rfl) H) (fun x59 H => ?_)
                refine ls_assign (x := x59) (by kernel_rfl) (by kernel_rfl) ?_
                refine ls_nil ?_
                refine then_normal ?_
                refine fr_eq (b := ⟨([x0, x1, x2, undef, undef, undef, (D 0), x23, x8, x9, x10, x11, (D 1), (D 2), x2, x15, x16, undef, x0, x19, x20, x21, x1, x23, x23, x25, x11, x2, x28, x29, (D 7), (D 8), x2, x11, x34, x35, x36, x38, x38, (D 16), (D 17), (D 18), (D 19), (D 20), (D 21), (D 22), (D 23), (D 24), x49, x49] ++ [(D 27), (D 28), (D 29), (D 30), (D 31), (D 32), (D 33), (D 34), x59, x59, (D 37), (D 38), (D 39), (D 40), (D 41), (D 42), (D 43), (D 44), (D 45), (D 46), (D 47), (D 48), (D 49), (D 50), (D 51), (D 52), (D 53), undef]).toArray, []⟩) (by kernel_rfl) ?_
                refine wp_if rfl H (fun H => ?_) (fun H => ?_)
                · refine wp_seq ?_
                  refine lwp_list ?_
                  refine ls_move (x := x10) (by kernel_rfl) (by kernel_rfl) ?_
                  refine ls_move (x := x23) (by kernel_rfl) (by kernel_rfl) ?_
                  refine ls_d (d := some 62) (by kernel_rfl) (by kernel_rfl) HA_2 (d_call (by kernel_rfl) (by kernel_rfl) H) (fun x62 h_8 w_8 H HA_8 => ?_)
                  refine ls_p (d := some 63) (by kernel_rfl) (by kernel_rfl) (p_add (by kernel_rfl) (by kernel_rfl) H) (fun x63 H => ?_)
                  refine ls_assign (x := x63) (by kernel_rfl) (by kernel_rfl) ?_
                  refine ls_nil ?_
                  refine then_normal ?_
                  refine fr_eq (b := ⟨([x0, x1, x2, undef, undef, undef, (D 0), x23, x8, x9, x63, x11, (D 1), (D 2), x2, x15, x16, undef, x0, x19, x20, x21, x1, x23, x23, x25, x11, x2, x28, x29, (D 7), (D 8), x2, x11, x34, x35, x36, x38, x38, (D 16), (D 17), (D 18), (D 19), (D 20), (D 21), (D 22), (D 23), (D 24), x49, x49] ++ [(D 27), (D 28), (D 29), (D 30), (D 31), (D 32), (D 33), (D 34), x59, x59, x10, x23, x62, x63, (D 41), (D 42), (D 43), (D 44), (D 45), (D 46), (D 47), (D 48), (D 49), (D 50), (D 51), (D 52), (D 53), undef]).toArray, []⟩) (by kernel_rfl) ?_
                  refine lwp_list ?_
                  refine ls_move (x := x23) (by kernel_rfl) (by kernel_rfl) ?_
                  refine ls_d (d := some 65) (by kernel_rfl) (by kernel_rfl) HA_8 (d_call (by kernel_rfl) (by kernel_rfl) H) (fun x65 h_9 w_9 H HA_9 => ?_)
                  refine ls_nil ?_
                  refine block_normal ?_
                  exact ⟨(fun i => ([(D 1), (D 2), x38, x38, (D 16), (D 17), (D 18), (D 19), (D 20), (D 21), (D 22), (D 23), (D 24), x49, x49, (D 27), (D 28), (D 29), (D 30), (D 31), (D 32), (D 33), (D 34), x59, x59, x10, x23, x62, x63, x23, x65]).getD i undef), x8, x9, x63, h_9, by kernel_rfl, HA_9, H⟩
                · refine wp_skip ?_
                  refine block_normal ?_
                  exact ⟨(fun i => ([(D 1), (D 2), x38, x38, (D 16), (D 17), (D 18), (D 19), (D 20), (D 21), (D 22), (D 23), (D 24), x49, x49, (D 27), (D 28), (D 29), (D 30), (D 31), (D 32), (D 33), (D 34), x59, x59, (D 37), (D 38), (D 39), (D 40), (D 41), (D 42)]).getD i undef), x8, x9, x10, h_2, by kernel_rfl, HA_2, H⟩
          · rintro _ w_3 ⟨D_1, x8_1, x9_1, x10_1, h_3, rfl, HA_3, H⟩
            unfold betonylaw07_FifoCounts_j2 at H
            refine then_normal ?_
            refine fr_eq (b := ⟨([x0, x1, x2, undef, undef, undef, (D 0), x23, x8_1, x9_1, x10_1, x11, (D_1 0), (D_1 1), x2, x15, x16, undef, x0, x19, x20, x21, x1, x23, x23, x25, x11, x2, x28, x29, (D 7), (D 8), x2, x11, x34, x35, x36, (D_1 2), (D_1 3), (D_1 4), (D_1 5), (D_1 6), (D_1 7), (D_1 8), (D_1 9), (D_1 10), (D_1 11), (D_1 12), (D_1 13), (D_1 14)] ++ [(D_1 15), (D_1 16), (D_1 17), (D_1 18), (D_1 19), (D_1 20), (D_1 21), (D_1 22), (D_1 23), (D_1 24), (D_1 25), (D_1 26), (D_1 27), (D_1 28), (D_1 29), (D_1 30), (D 43), (D 44), (D 45), (D 46), (D 47), (D 48), (D 49), (D 50), (D 51), (D 52), (D 53), undef]).toArray, []⟩) (by kernel_rfl) ?_
            refine wp_seq ?_
            refine lwp_list ?_
            refine ls_move (x := x8_1) (by kernel_rfl) (by kernel_rfl) ?_
            refine ls_move (x := x9_1) (by kernel_rfl) (by kernel_rfl) ?_
            refine ls_move (x := x10_1) (by kernel_rfl) (by kernel_rfl) ?_
            refine ls_p (d := some 69) (by kernel_rfl) (by kernel_rfl) (p_add (by kernel_rfl) (by kernel_rfl) H) (fun x69 H => ?_)
            refine ls_move (x := x23) (by kernel_rfl) (by kernel_rfl) ?_
            refine ls_d (d := some 71) (by kernel_rfl) (by kernel_rfl) HA_3 (d_call (by kernel_rfl) (by kernel_rfl) H) (fun x71 h_4 w_4 H HA_4 => ?_)
            refine ls_fr (b := ⟨([x0, x1, x2, undef, undef, undef, (D 0), x23, x8_1, x9_1, x10_1, x11, (D_1 0), (D_1 1), x2, x15, x16, undef, x0, x19, x20, x21, x1, x23, x23, x25, x11, x2, x28, x29, (D 7), (D 8), x2, x11, x34, x35, x36, (D_1 2), (D_1 3), (D_1 4), (D_1 5), (D_1 6), (D_1 7), (D_1 8), (D_1 9), (D_1 10), (D_1 11), (D_1 12), (D_1 13), (D_1 14)] ++ [(D_1 15), (D_1 16), (D_1 17), (D_1 18), (D_1 19), (D_1 20), (D_1 21), (D_1 22), (D_1 23), (D_1 24), (D_1 25), (D_1 26), (D_1 27), (D_1 28), (D_1 29), (D_1 30), x8_1, x9_1, x10_1, x69, x23, x71, (D 49), (D 50), (D 51), (D 52), (D 53), undef]).toArray, []⟩) (by kernel_rfl) ?_
            refine ls_p (d := some 72) (by kernel_rfl) (by kernel_rfl) (p_add (by kernel_rfl) (by kernel_rfl) H) (fun x72 H => ?_)
            refine ls_move (x := x23) (by kernel_rfl) (by kernel_rfl) ?_
            refine ls_d (d := some 74) (by kernel_rfl) (by kernel_rfl) HA_4 (d_call (by kernel_rfl) (by kernel_rfl) H) (fun x74 h_5 w_5 H HA_5 => ?_)
            refine ls_p (d := some 75) (by kernel_rfl) (by kernel_rfl) (p_add (by kernel_rfl) (by kernel_rfl) H) (fun x75 H => ?_)
            refine ls_p (d := some 76) (by kernel_rfl) (by kernel_rfl) (p_sNe (by kernel_rfl) (by kernel_rfl) H) (fun x76 H => ?_)
            refine ls_nil ?_
            refine then_normal ?_
            refine fr_eq (b := ⟨([x0, x1, x2, undef, undef, undef, (D 0), x23, x8_1, x9_1, x10_1, x11, (D_1 0), (D_1 1), x2, x15, x16, undef, x0, x19, x20, x21, x1, x23, x23, x25, x11, x2, x28, x29, (D 7), (D 8), x2, x11, x34, x35, x36, (D_1 2), (D_1 3), (D_1 4), (D_1 5), (D_1 6), (D_1 7), (D_1 8), (D_1 9), (D_1 10), (D_1 11), (D_1 12), (D_1 13), (D_1 14)] ++ [(D_1 15), (D_1 16), (D_1 17), (D_1 18), (D_1 19), (D_1 20), (D_1 21), (D_1 22), (D_1 23), (D_1 24), (D_1 25), (D_1 26), (D_1 27), (D_1 28), (D_1 29), (D_1 30), x8_1, x9_1, x10_1, x69, x23, x71, x72, x23, x74, x75, x76, undef]).toArray, []⟩) (by kernel_rfl) ?_
            refine wp_if rfl H (fun H => ?_) (fun H => ?_)
            · refine wp_seq ?_
              refine lwp_list ?_
              refine ls_assign (x := (.bool false)) (by kernel_rfl) (by kernel_rfl) ?_
              refine ls_nil ?_
              refine then_normal ?_
              refine fr_eq (b := ⟨([x0, x1, x2, undef, undef, undef, (.bool false), x23, x8_1, x9_1, x10_1, x11, (D_1 0), (D_1 1), x2, x15, x16, undef, x0, x19, x20, x21, x1, x23, x23, x25, x11, x2, x28, x29, (D 7), (D 8), x2, x11, x34, x35, x36, (D_1 2), (D_1 3), (D_1 4), (D_1 5), (D_1 6), (D_1 7), (D_1 8), (D_1 9), (D_1 10), (D_1 11), (D_1 12), (D_1 13), (D_1 14)] ++ [(D_1 15), (D_1 16), (D_1 17), (D_1 18), (D_1 19), (D_1 20), (D_1 21), (D_1 22), (D_1 23), (D_1 24), (D_1 25), (D_1 26), (D_1 27), (D_1 28), (D_1 29), (D_1 30), x8_1, x9_1, x10_1, x69, x23, x71, x72, x23, x74, x75, x76, undef]).toArray, []⟩) (by kernel_rfl) ?_
              refine wp_ret ?_
              refine block_ret ?_
              refine then_ret ?_
              refine then_ret ?_
              refine block_ret ?_
              refine then_ret ?_
              exact end1 (Try.results12) (by kernel_rfl) (by kernel_rfl) HA_5 H _ (.inr rfl)
            · refine wp_skip ?_
              refine block_normal ?_
              refine then_normal ?_
              refine fr_eq (b := ⟨([x0, x1, x2, undef, undef, undef, (D 0), x23, x8_1, x9_1, x10_1, x11, (D_1 0), (D_1 1), x2, x15, x16, undef, x0, x19, x20, x21, x1, x23, x23, x25, x11, x2, x28, x29, (D 7), (D 8), x2, x11, x34, x35, x36, (D_1 2), (D_1 3), (D_1 4), (D_1 5), (D_1 6), (D_1 7), (D_1 8), (D_1 9), (D_1 10), (D_1 11), (D_1 12), (D_1 13), (D_1 14)] ++ [(D_1 15), (D_1 16), (D_1 17), (D_1 18), (D_1 19), (D_1 20), (D_1 21), (D_1 22), (D_1 23), (D_1 24), (D_1 25), (D_1 26), (D_1 27), (D_1 28), (D_1 29), (D_1 30), x8_1, x9_1, x10_1, x69, x23, x71, x72, x23, x74, x75, x76, undef]).toArray, []⟩) (by kernel_rfl) ?_
              refine lwp_list ?_
              refine ls_move (x := x11) (by kernel_rfl) (by kernel_rfl) ?_
              refine ls_p (d := some 31) (by kernel_rfl) (by kernel_rfl) (p_add (by kernel_rfl) (by kernel_rfl) H) (fun x31 H => ?_)
              refine ls_assign (x := x31) (by kernel_rfl) (by kernel_rfl) ?_
              refine ls_nil ?_
              exact ⟨⟨(fun i => ([(D 0), (D_1 0), (D_1 1), x11, x2, x28, x29, x11, x31, x2, x11, x34, x35, x36, (D_1 2), (D_1 3), (D_1 4), (D_1 5), (D_1 6), (D_1 7), (D_1 8), (D_1 9), (D_1 10), (D_1 11), (D_1 12), (D_1 13), (D_1 14), (D_1 15), (D_1 16), (D_1 17), (D_1 18), (D_1 19), (D_1 20), (D_1 21), (D_1 22), (D_1 23), (D_1 24), (D_1 25), (D_1 26), (D_1 27), (D_1 28), (D_1 29), (D_1 30), x8_1, x9_1, x10_1, x69, x23, x71, x72] ++ [x23, x74, x75, x76]).getD i undef), x8_1, x9_1, x10_1, x31, h_5, by kernel_rfl, HA_5, H.1⟩, loop_lt HA_5.heap HA_2.heap (by kernel_rfl) (by kernel_rfl) H.2⟩
        · refine wp_exit ?_
          refine then_exit ?_
          refine then_exit ?_
          refine block_exit ?_
          refine then_normal ?_
          refine fr_eq (b := ⟨([x0, x1, x2, undef, undef, undef, (D 0), x23, x8, x9, x10, x11, (D 1), (D 2), x2, x15, x16, undef, x0, x19, x20, x21, x1, x23, x23, x25, x11, x2, x28, x29, (D 7), (D 8), (D 9), (D 10), (D 11), (D 12), (D 13), (D 14), (D 15), (D 16), (D 17), (D 18), (D 19), (D 20), (D 21), (D 22), (D 23), (D 24), (D 25), (D 26)] ++ [(D 27), (D 28), (D 29), (D 30), (D 31), (D 32), (D 33), (D 34), (D 35), (D 36), (D 37), (D 38), (D 39), (D 40), (D 41), (D 42), (D 43), (D 44), (D 45), (D 46), (D 47), (D 48), (D 49), (D 50), (D 51), (D 52), (D 53), undef]).toArray, []⟩) (by kernel_rfl) ?_
          refine wp_seq ?_
          refine lwp_list ?_
          refine ls_d (d := some 77) (by kernel_rfl) (by kernel_rfl) HA_2 (d_call (by kernel_rfl) (by kernel_rfl) H) (fun x77 h_10 w_10 H HA_10 => ?_)
          refine ls_assign (x := x77) (by kernel_rfl) (by kernel_rfl) ?_
          refine ls_nil ?_
          refine then_normal ?_
          refine fr_eq (b := ⟨([x0, x1, x2, undef, undef, undef, x77, x23, x8, x9, x10, x11, (D 1), (D 2), x2, x15, x16, undef, x0, x19, x20, x21, x1, x23, x23, x25, x11, x2, x28, x29, (D 7), (D 8), (D 9), (D 10), (D 11), (D 12), (D 13), (D 14), (D 15), (D 16), (D 17), (D 18), (D 19), (D 20), (D 21), (D 22), (D 23), (D 24), (D 25), (D 26)] ++ [(D 27), (D 28), (D 29), (D 30), (D 31), (D 32), (D 33), (D 34), (D 35), (D 36), (D 37), (D 38), (D 39), (D 40), (D 41), (D 42), (D 43), (D 44), (D 45), (D 46), (D 47), (D 48), (D 49), (D 50), (D 51), (D 52), (D 53), x77]).toArray, []⟩) (by kernel_rfl) ?_
          refine wp_ret ?_
          exact end1 (Try.results12) (by kernel_rfl) (by kernel_rfl) HA_10 H _ (.inr rfl)

end Go.Proofs.Ytecoejjpdogklaa
