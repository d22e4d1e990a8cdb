/- The shallow reading of one function, and that the function does it. Written by a program. -/
import Derived.Test.YtecoejjpdogklaaFnC
set_option linter.unusedVariables false
namespace Go.Proofs.Ytecoejjpdogklaa
open Go Go.HW

def betonylaw07_FifoKeeps_j2 (next : Value → Value → Value → Heap → Prop) (x10 x8_1 x9_1 : Value) (h_3 : Heap) : Prop :=
  sAdd .i64 x10 (.int .i64 1) fun x33 =>
  next x8_1 x9_1 x33 h_3
def betonylaw07_FifoKeeps_l4 (R : Value → Heap → Prop) (x25 x9 : Value) (next : Value → Heap → Prop) (x13 : Value) (h_9 : Heap) : Prop :=
  sLen x9 fun x85 =>
  sLt x13 x85 fun x86 =>
  sIf x86 (fifo_Queue_Take_c x25 h_9 fun x91 h_10 => 
  sTup x91 0 fun x92 =>
  sTup x91 1 fun x93 =>
  sNot x93 fun x95 =>
  sOr x95 (fun k_1 =>
  sIxS x9 x13 1 fun x100 =>
  sLd h_10 x100 fun x101 =>
  sNe x92 x101 fun x102 =>
  k_1 x102) fun x103 =>
  sIf x103 (R (.bool false) h_10) (sAdd .i64 x13 (.int .i64 1) fun x88 =>
  next x88 h_10)) (fifo_Queue_Len_c x25 h_9 fun x105 h_11 => 
  sEq x105 (.int .i64 0) fun x106 =>
  sAndH x106 h_11 (fun k_2 =>
  betonylaw07_awake_c  h_11 fun x108 h_13 => 
  k_2 x108 h_13) fun x109 h_12 =>
  R x109 h_12)
def betonylaw07_FifoKeeps_l3 (R : Value → Heap → Prop) (x0 x1 x2 x25 x8 x9 : Value) (next : Value → Value → Heap → Prop) (x11 x12 : Value) (h_7 : Heap) : Prop :=
  sLen x2 fun x57 =>
  sLt x12 x57 fun x58 =>
  sIf x58 (sOr x11 (fun k =>
  sIxS x2 x12 1 fun x65 =>
  sLd h_7 x65 fun x66 =>
  sEq x66 x1 fun x68 =>
  k x68) fun x69 =>
  sAdd .i64 x12 (.int .i64 1) fun x60 =>
  next x69 x60 h_7) (sGt x8 (.int .i64 0) fun x72 =>
  sNeqB x11 x72 fun x73 =>
  sOrH x73 h_7 (fun k_3 =>
  fifo_Queue_Len_c x25 h_7 fun x76 h_14 => 
  sConv .i64 x0 fun x78 =>
  sRem .i64 x78 (.int .i64 20) fun x79 =>
  sAdd .i64 (.int .i64 2) x79 fun x80 =>
  sGt x76 x80 fun x81 =>
  k_3 x81 h_14) fun x82 h_8 =>
  sIf x82 (R (.bool false) h_8) (sLoop (S := Value) (fun next s h => betonylaw07_FifoKeeps_l4 R x25 x9 (fun x13' h => next x13' h) s h) (.int .i64 0) h_8))
def betonylaw07_FifoKeeps_l1 (R : Value → Heap → Prop) (x0 x1 x2 x25 : Value) (next : Value → Value → Value → Heap → Prop) (x8 x9 x10 : Value) (h_2 : Heap) : Prop :=
  sLen x2 fun x30 =>
  sLt x10 x30 fun x31 =>
  sIf x31 (sIxS x2 x10 1 fun x37 =>
  sLd h_2 x37 fun x38 =>
  fifo_Queue_Put_c x25 x38 h_2 fun x39 h_4 => 
  sIf x39 (sIxS x2 x10 1 fun x43 =>
  sLd h_4 x43 fun x44 =>
  sSlit h_4 #[.int .i64 0] [(0, 1, x44)] 3 1 fun x45 h_5 => 
  sApp h_5 x9 x45 #[.int .i64 0] 3 8 fun x46 h_6 => 
  sIxS x2 x10 1 fun x49 =>
  sLd h_6 x49 fun x50 =>
  sEq x50 x1 fun x52 =>
  sIf x52 (sAdd .i64 x8 (.int .i64 1) fun x54 =>
  betonylaw07_FifoKeeps_j2 next x10 x54 x46 h_6) (betonylaw07_FifoKeeps_j2 next x10 x8 x46 h_6)) (betonylaw07_FifoKeeps_j2 next x10 x8 x9 h_4)) (sLoop (S := Value × Value) (fun next s h => betonylaw07_FifoKeeps_l3 R x0 x1 x2 x25 x8 x9 (fun x11' x12' h => next (x11', x12') h) s.1 s.2 h) ((.bool false), (.int .i64 0)) h_2)
def betonylaw07_FifoKeeps_S (x0 x1 x2 : Value) (h : Heap) (R : Value → Heap → Prop) : Prop :=
  sLen x2 fun x17 =>
  sGt x17 (.int .i64 60) fun x18 =>
  sIf x18 (betonylaw07_awake_c  h fun x19 h => 
  R x19 h) (sConv .i64 x0 fun x21 =>
  sRem .i64 x21 (.int .i64 20) fun x22 =>
  sAdd .i64 (.int .i64 1) x22 fun x23 =>
  fifo_New_c x23 x1 h fun x25 h_1 => 
  sEqlNil x25 fun x27 =>
  sIf x27 (R (.bool false) h_1) (sLoop (S := Value × Value × Value) (fun next s h => betonylaw07_FifoKeeps_l1 R x0 x1 x2 x25 (fun x8' x9' x10' h => next (x8', x9', x10') h) s.1 s.2.1 s.2.2 h) ((.int .i64 0), (.slice none 0 0), (.int .i64 0)) h_1))
set_option maxRecDepth 100000 in
theorem betonylaw07_FifoKeeps_runs {x0 x1 x2 : Value} {h : Heap} {R : Value → Heap → Prop} (H : betonylaw07_FifoKeeps_S x0 x1 x2 h R) : betonylaw07_FifoKeeps_c x0 x1 x2 h R := by
  unfold betonylaw07_FifoKeeps_S at H
  refine runs_of (b := ⟨([x0, x1, x2, undef, undef, undef, undef, undef, undef, undef, undef, undef, undef, undef, undef, undef, undef, undef, undef, undef, undef, undef, undef, undef, undef, undef, undef, undef, undef, undef, undef, undef, undef, undef, undef, undef, undef, undef, undef, undef, undef, undef, undef, undef, undef, undef, undef, undef, undef, undef] ++ [undef, undef, undef, undef, undef, undef, undef, undef, undef, undef, undef, undef, undef, undef, undef, undef, undef, undef, undef, undef, undef, undef, undef, undef, undef, undef, undef, undef, undef, undef, undef, undef, undef, undef, undef, undef, undef, undef, undef, undef, undef, undef, undef, undef, undef, undef, undef, undef, undef, undef] ++ [undef, undef, undef, undef, undef, undef, undef, undef, undef, undef]).toArray, []⟩) Try.call11 Try.func11 rfl (by kernel_rfl) (fun w0 HA => ?_)
  refine wp_seq ?_
  refine lwp_list ?_
  refine ls_assign (x := (.bool false)) (by kernel_rfl) (by kernel_rfl) ?_
  refine ls_nil ?_
  refine then_normal ?_
  refine fr_eq (b := ⟨([x0, x1, x2, undef, undef, undef, (.bool false), undef, undef, undef, undef, undef, undef, undef, undef, undef, undef, undef, undef, undef, undef, undef, undef, undef, undef, undef, undef, undef, undef, undef, undef, undef, undef, undef, undef, undef, undef, undef, undef, undef, undef, undef, undef, undef, undef, undef, undef, undef, undef, undef] ++ [undef, undef, undef, undef, undef, undef, undef, undef, undef, undef, undef, undef, undef, undef, undef, undef, undef, undef, undef, undef, undef, undef, undef, undef, undef, undef, undef, undef, undef, undef, undef, undef, undef, undef, undef, undef, undef, undef, undef, undef, undef, undef, undef, undef, undef, undef, undef, undef, undef, undef] ++ [undef, undef, undef, undef, undef, undef, undef, undef, undef, undef]).toArray, []⟩) (by kernel_rfl) ?_
  refine wp_seq ?_
  refine wp_seq ?_
  refine lwp_list ?_
  refine ls_move (x := x2) (by kernel_rfl) (by kernel_rfl) ?_
  refine ls_p (d := some 17) (by kernel_rfl) (by kernel_rfl) (p_len Try.underlying22 (by kernel_rfl) H) (fun x17 H => ?_)
  refine ls_p (d := some 18) (by kernel_rfl) (by kernel_rfl) (p_sGt (by kernel_rfl) (by kernel_rfl) H) (fun x18 H => ?_)
  refine ls_nil ?_
  refine then_normal ?_
  refine fr_eq (b := ⟨([x0, x1, x2, undef, undef, undef, (.bool false), undef, undef, undef, undef, undef, undef, undef, undef, undef, x2, x17, x18, undef, undef, undef, undef, undef, undef, undef, undef, undef, undef, undef, undef, undef, undef, undef, undef, undef, undef, undef, undef, undef, undef, undef, undef, undef, undef, undef, undef, undef, undef, undef] ++ [undef, undef, undef, undef, undef, undef, undef, undef, undef, undef, undef, undef, undef, undef, undef, undef, undef, undef, undef, undef, undef, undef, undef, undef, undef, undef, undef, undef, undef, undef, undef, undef, undef, undef, undef, undef, undef, undef, undef, undef, undef, undef, undef, undef, undef, undef, undef, undef, undef, undef] ++ [undef, undef, undef, undef, undef, undef, undef, undef, undef, undef]).toArray, []⟩) (by kernel_rfl) ?_
  refine wp_if rfl H (fun H => ?_) (fun H => ?_)
  · refine wp_seq ?_
    refine lwp_list ?_
    refine ls_d (d := some 19) (by kernel_rfl) (by kernel_rfl) HA (d_call (by kernel_rfl) (by kernel_rfl) H) (fun x19 h w H HA => ?_)
    refine ls_assign (x := x19) (by kernel_rfl) (by kernel_rfl) ?_
    refine ls_nil ?_
    refine then_normal ?_
    refine fr_eq (b := ⟨([x0, x1, x2, undef, undef, undef, x19, undef, undef, undef, undef, undef, undef, undef, undef, undef, x2, x17, x18, x19, undef, undef, undef, undef, undef, undef, undef, undef, undef, undef, undef, undef, undef, undef, undef, undef, undef, undef, undef, undef, undef, undef, undef, undef, undef, undef, undef, undef, undef, undef] ++ [undef, undef, undef, undef, undef, undef, undef, undef, undef, undef, undef, undef, undef, undef, undef, undef, undef, undef, undef, undef, undef, undef, undef, undef, undef, undef, undef, undef, undef, undef, undef, undef, undef, undef, undef, undef, undef, undef, undef, undef, undef, undef, undef, undef, undef, undef, undef, undef, undef, undef] ++ [undef, undef, undef, undef, undef, undef, undef, undef, undef, undef]).toArray, []⟩) (by kernel_rfl) ?_
    refine wp_ret ?_
    refine then_ret ?_
    exact end1 (Try.results11) (by kernel_rfl) (by kernel_rfl) HA H _ (.inr rfl)
  · refine wp_skip ?_
    refine then_normal ?_
    refine fr_eq (b := ⟨([x0, x1, x2, undef, undef, undef, (.bool false), undef, undef, undef, undef, undef, undef, undef, undef, undef, x2, x17, x18, undef, undef, undef, undef, undef, undef, undef, undef, undef, undef, undef, undef, undef, undef, undef, undef, undef, undef, undef, undef, undef, undef, undef, undef, undef, undef, undef, undef, undef, undef, undef] ++ [undef, undef, undef, undef, undef, undef, undef, undef, undef, undef, undef, undef, undef, undef, undef, undef, undef, undef, undef, undef, undef, undef, undef, undef, undef, undef, undef, undef, undef, undef, undef, undef, undef, undef, undef, undef, undef, undef, undef, undef, undef, undef, undef, undef, undef, undef, undef, undef, undef, undef] ++ [undef, undef, undef, undef, undef, undef, undef, undef, undef, undef]).toArray, []⟩) (by kernel_rfl) ?_
    refine wp_seq ?_
    refine lwp_list ?_
    refine ls_move (x := x0) (by kernel_rfl) (by kernel_rfl) ?_
    refine ls_p (d := some 21) (by kernel_rfl) (by kernel_rfl) (p_conv Try.underlying5 Try.underlying3 (by kernel_rfl) H) (fun x21 H => ?_)
    refine ls_p (d := some 22) (by kernel_rfl) (by kernel_rfl) (p_rem (by kernel_rfl) (by kernel_rfl) H) (fun x22 H => ?_)
    refine ls_p (d := some 23) (by kernel_rfl) (by kernel_rfl) (p_add (by kernel_rfl) (by kernel_rfl) H) (fun x23 H => ?_)
    refine ls_move (x := x1) (by kernel_rfl) (by kernel_rfl) ?_
    refine ls_d (d := some 25) (by kernel_rfl) (by kernel_rfl) HA (d_call (by kernel_rfl) (by kernel_rfl) H) (fun x25 h_1 w_1 H HA_1 => ?_)
    refine ls_fr (b := ⟨([x0, x1, x2, undef, undef, undef, (.bool false), undef, undef, undef, undef, undef, undef, undef, undef, undef, x2, x17, x18, undef, x0, x21, x22, x23, x1, x25, undef, undef, undef, undef, undef, undef, undef, undef, undef, undef, undef, undef, undef, undef, undef, undef, undef, undef, undef, undef, undef, undef, undef, undef] ++ [undef, undef, undef, undef, undef, undef, undef, undef, undef, undef, undef, undef, undef, undef, undef, undef, undef, undef, undef, undef, undef, undef, undef, undef, undef, undef, undef, undef, undef, undef, undef, undef, undef, undef, undef, undef, undef, undef, undef, undef, undef, undef, undef, undef, undef, undef, undef, undef, undef, undef] ++ [undef, undef, undef, undef, undef, undef, undef, undef, undef, undef]).toArray, []⟩) (by kernel_rfl) ?_
    refine ls_assign (x := x25) (by kernel_rfl) (by kernel_rfl) ?_
    refine ls_nil ?_
    refine then_normal ?_
    refine fr_eq (b := ⟨([x0, x1, x2, undef, undef, undef, (.bool false), x25, undef, undef, undef, undef, undef, undef, undef, undef, x2, x17, x18, undef, x0, x21, x22, x23, x1, x25, undef, undef, undef, undef, undef, undef, undef, undef, undef, undef, undef, undef, undef, undef, undef, undef, undef, undef, undef, undef, undef, undef, undef, undef] ++ [undef, undef, undef, undef, undef, undef, undef, undef, undef, undef, undef, undef, undef, undef, undef, undef, undef, undef, undef, undef, undef, undef, undef, undef, undef, undef, undef, undef, undef, undef, undef, undef, undef, undef, undef, undef, undef, undef, undef, undef, undef, undef, undef, undef, undef, undef, undef, undef, undef, undef] ++ [undef, undef, undef, undef, undef, undef, undef, undef, undef, undef]).toArray, []⟩) (by kernel_rfl) ?_
    refine wp_seq ?_
    refine wp_seq ?_
    refine lwp_list ?_
    refine ls_move (x := x25) (by kernel_rfl) (by kernel_rfl) ?_
    refine ls_p (d := some 27) (by kernel_rfl) (by kernel_rfl) (p_eqlNil Try.underlying67 (by kernel_rfl) (by kernel_rfl) H) (fun x27 H => ?_)
    refine ls_nil ?_
    refine then_normal ?_
    refine fr_eq (b := ⟨([x0, x1, x2, undef, undef, undef, (.bool false), x25, undef, undef, undef, undef, undef, undef, undef, undef, x2, x17, x18, undef, x0, x21, x22, x23, x1, x25, x25, x27, undef, undef, undef, undef, undef, undef, undef, undef, undef, undef, undef, undef, undef, undef, undef, undef, undef, undef, undef, undef, undef, undef] ++ [undef, undef, undef, undef, undef, undef, undef, undef, undef, undef, undef, undef, undef, undef, undef, undef, undef, undef, undef, undef, undef, undef, undef, undef, undef, undef, undef, undef, undef, undef, undef, undef, undef, undef, undef, undef, undef, undef, undef, undef, undef, undef, undef, undef, undef, undef, undef, undef, undef, undef] ++ [undef, undef, undef, undef, undef, undef, undef, undef, undef, undef]).toArray, []⟩) (by kernel_rfl) ?_
    refine wp_if rfl H (fun H => ?_) (fun H => ?_)
    · refine wp_seq ?_
      refine lwp_list ?_
      refine ls_assign (x := (.bool false)) (by kernel_rfl) (by kernel_rfl) ?_
      refine ls_nil ?_
      refine then_normal ?_
      refine fr_eq (b := ⟨([x0, x1, x2, undef, undef, undef, (.bool false), x25, undef, undef, undef, undef, undef, undef, undef, undef, x2, x17, x18, undef, x0, x21, x22, x23, x1, x25, x25, x27, undef, undef, undef, undef, undef, undef, undef, undef, undef, undef, undef, undef, undef, undef, undef, undef, undef, undef, undef, undef, undef, undef] ++ [undef, undef, undef, undef, undef, undef, undef, undef, undef, undef, undef, undef, undef, undef, undef, undef, undef, undef, undef, undef, undef, undef, undef, undef, undef, undef, undef, undef, undef, undef, undef, undef, undef, undef, undef, undef, undef, undef, undef, undef, undef, undef, undef, undef, undef, undef, undef, undef, undef, undef] ++ [undef, undef, undef, undef, undef, undef, undef, undef, undef, undef]).toArray, []⟩) (by kernel_rfl) ?_
      refine wp_ret ?_
      refine then_ret ?_
      exact end1 (Try.results11) (by kernel_rfl) (by kernel_rfl) HA_1 H _ (.inr rfl)
    · refine wp_skip ?_
      refine then_normal ?_
      refine fr_eq (b := ⟨([x0, x1, x2, undef, undef, undef, (.bool false), x25, undef, undef, undef, undef, undef, undef, undef, undef, x2, x17, x18, undef, x0, x21, x22, x23, x1, x25, x25, x27, undef, undef, undef, undef, undef, undef, undef, undef, undef, undef, undef, undef, undef, undef, undef, undef, undef, undef, undef, undef, undef, undef] ++ [undef, undef, undef, undef, undef, undef, undef, undef, undef, undef, undef, undef, undef, undef, undef, undef, undef, undef, undef, undef, undef, undef, undef, undef, undef, undef, undef, undef, undef, undef, undef, undef, undef, undef, undef, undef, undef, undef, undef, undef, undef, undef, undef, undef, undef, undef, undef, undef, undef, undef] ++ [undef, undef, undef, undef, undef, undef, undef, undef, undef, undef]).toArray, []⟩) (by kernel_rfl) ?_
      refine wp_seq ?_
      refine lwp_list ?_
      refine ls_assign (x := (.int .i64 0)) (by kernel_rfl) (by kernel_rfl) ?_
      refine ls_nil ?_
      refine then_normal ?_
      refine fr_eq (b := ⟨([x0, x1, x2, undef, undef, undef, (.bool false), x25, (.int .i64 0), undef, undef, undef, undef, undef, undef, undef, x2, x17, x18, undef, x0, x21, x22, x23, x1, x25, x25, x27, undef, undef, undef, undef, undef, undef, undef, undef, undef, undef, undef, undef, undef, undef, undef, undef, undef, undef, undef, undef, undef, undef] ++ [undef, undef, undef, undef, undef, undef, undef, undef, undef, undef, undef, undef, undef, undef, undef, undef, undef, undef, undef, undef, undef, undef, undef, undef, undef, undef, undef, undef, undef, undef, undef, undef, undef, undef, undef, undef, undef, undef, undef, undef, undef, undef, undef, undef, undef, undef, undef, undef, undef, undef] ++ [undef, undef, undef, undef, undef, undef, undef, undef, undef, undef]).toArray, []⟩) (by kernel_rfl) ?_
      refine wp_seq ?_
      refine lwp_list ?_
      refine ls_assign (x := (.slice none 0 0)) (by kernel_rfl) (by kernel_rfl) ?_
      refine ls_nil ?_
      refine then_normal ?_
      refine fr_eq (b := ⟨([x0, x1, x2, undef, undef, undef, (.bool false), x25, (.int .i64 0), (.slice none 0 0), undef, undef, undef, undef, undef, undef, x2, x17, x18, undef, x0, x21, x22, x23, x1, x25, x25, x27, undef, undef, undef, undef, undef, undef, undef, undef, undef, undef, undef, undef, undef, undef, undef, undef, undef, undef, undef, undef, undef, undef] ++ [undef, undef, undef, undef, undef, undef, undef, undef, undef, undef, undef, undef, undef, undef, undef, undef, undef, undef, undef, undef, undef, undef, undef, undef, undef, undef, undef, undef, undef, undef, undef, undef, undef, undef, undef, undef, undef, undef, undef, undef, undef, undef, undef, undef, undef, undef, undef, undef, undef, undef] ++ [undef, undef, undef, undef, undef, undef, undef, undef, undef, undef]).toArray, []⟩) (by kernel_rfl) ?_
      refine wp_seq ?_
      refine wp_seq ?_
      refine lwp_list ?_
      refine ls_assign (x := (.int .i64 0)) (by kernel_rfl) (by kernel_rfl) ?_
      refine ls_nil ?_
      refine then_normal ?_
      refine fr_eq (b := ⟨([x0, x1, x2, undef, undef, undef, (.bool false), x25, (.int .i64 0), (.slice none 0 0), (.int .i64 0), undef, undef, undef, undef, undef, x2, x17, x18, undef, x0, x21, x22, x23, x1, x25, x25, x27, undef, undef, undef, undef, undef, undef, undef, undef, undef, undef, undef, undef, undef, undef, undef, undef, undef, undef, undef, undef, undef, undef] ++ [undef, undef, undef, undef, undef, undef, undef, undef, undef, undef, undef, undef, undef, undef, undef, undef, undef, undef, undef, undef, undef, undef, undef, undef, undef, undef, undef, undef, undef, undef, undef, undef, undef, undef, undef, undef, undef, undef, undef, undef, undef, undef, undef, undef, undef, undef, undef, undef, undef, undef] ++ [undef, undef, undef, undef, undef, undef, undef, undef, undef, undef]).toArray, []⟩) (by kernel_rfl) ?_
      refine wp_block ?_
      obtain ⟨I, m, H0, HB⟩ := H
      refine wp_loop (fun a w => ∃ (D : Nat → Value) (x8 x9 x10 : Value) (h_2 : Heap), a = ⟨([x0, x1, x2, undef, undef, undef, (.bool false), x25, x8, x9, x10, undef, undef, undef, undef, undef, x2, x17, x18, undef, x0, x21, x22, x23, x1, x25, x25, x27, (D 0), (D 1), (D 2), (D 3), (D 4), (D 5), (D 6), (D 7), (D 8), (D 9), (D 10), (D 11), (D 12), (D 13), (D 14), (D 15), (D 16), (D 17), (D 18), (D 19), (D 20), (D 21)] ++ [(D 22), (D 23), (D 24), (D 25), (D 26), undef, undef, undef, undef, undef, undef, undef, undef, undef, undef, undef, undef, undef, undef, undef, undef, undef, undef, undef, undef, undef, undef, undef, undef, undef, undef, undef, undef, undef, undef, undef, undef, undef, undef, undef, undef, undef, undef, undef, undef, undef, undef, undef, undef, undef] ++ [undef, undef, undef, undef, undef, undef, undef, undef, undef, undef]).toArray, []⟩ ∧ At w0 w h_2 ∧ I (x8, x9, x10) h_2) (fun a w => m ((a.tmps.getD 8 undef), (a.tmps.getD 9 undef), (a.tmps.getD 10 undef)) w.heap) ?_ ?_
      · exact ⟨(fun i => ([undef, undef, undef, undef, undef, undef, undef, undef, undef, undef, undef, undef, undef, undef, undef, undef, undef, undef, undef, undef, undef, undef, undef, undef, undef, undef, undef]).getD i undef), (.int .i64 0), (.slice none 0 0), (.int .i64 0), h_1, by kernel_rfl, HA_1, H0⟩
      · rintro _ w_2 ⟨D, x8, x9, x10, h_2, rfl, HA_2, HI⟩
        have H : betonylaw07_FifoKeeps_l1 R x0 x1 x2 x25 (fun x8' x9' x10' h' => I (x8', x9', x10') h' ∧ m (x8', x9', x10') h' < m (x8, x9, x10) h_2) x8 x9 x10 h_2 := HB (x8, x9, x10) h_2 HI
        clear HB H0 HI
        unfold betonylaw07_FifoKeeps_l1 at H
        refine wp_seq ?_
        refine wp_seq ?_
        refine lwp_list ?_
        refine ls_move (x := x10) (by kernel_rfl) (by kernel_rfl) ?_
        refine ls_move (x := x2) (by kernel_rfl) (by kernel_rfl) ?_
        refine ls_p (d := some 30) (by kernel_rfl) (by kernel_rfl) (p_len Try.underlying22 (by kernel_rfl) H) (fun x30 H => ?_)
        refine ls_p (d := some 31) (by kernel_rfl) (by kernel_rfl) (p_sLt (by kernel_rfl) (by kernel_rfl) H) (fun x31 H => ?_)
        refine ls_nil ?_
        refine then_normal ?_
        refine fr_eq (b := ⟨([x0, x1, x2, undef, undef, undef, (.bool false), x25, x8, x9, x10, undef, undef, undef, undef, undef, x2, x17, x18, undef, x0, x21, x22, x23, x1, x25, x25, x27, x10, x2, x30, x31, (D 4), (D 5), (D 6), (D 7), (D 8), (D 9), (D 10), (D 11), (D 12), (D 13), (D 14), (D 15), (D 16), (D 17), (D 18), (D 19), (D 20), (D 21)] ++ [(D 22), (D 23), (D 24), (D 25), (D 26), undef, undef, undef, undef, undef, undef, undef, undef, undef, undef, undef, undef, undef, undef, undef, undef, undef, undef, undef, undef, undef, undef, undef, undef, undef, undef, undef, undef, undef, undef, undef, undef, undef, undef, undef, undef, undef, undef, undef, undef, undef, undef, undef, undef, undef] ++ [undef, undef, undef, undef, undef, undef, undef, undef, undef, undef]).toArray, []⟩) (by kernel_rfl) ?_
        refine wp_if rfl H (fun H => ?_) (fun H => ?_)
        · refine wp_skip ?_
          refine then_normal ?_
          refine fr_eq (b := ⟨([x0, x1, x2, undef, undef, undef, (.bool false), x25, x8, x9, x10, undef, undef, undef, undef, undef, x2, x17, x18, undef, x0, x21, x22, x23, x1, x25, x25, x27, x10, x2, x30, x31, (D 4), (D 5), (D 6), (D 7), (D 8), (D 9), (D 10), (D 11), (D 12), (D 13), (D 14), (D 15), (D 16), (D 17), (D 18), (D 19), (D 20), (D 21)] ++ [(D 22), (D 23), (D 24), (D 25), (D 26), undef, undef, undef, undef, undef, undef, undef, undef, undef, undef, undef, undef, undef, undef, undef, undef, undef, undef, undef, undef, undef, undef, undef, undef, undef, undef, undef, undef, undef, undef, undef, undef, undef, undef, undef, undef, undef, undef, undef, undef, undef, undef, undef, undef, undef] ++ [undef, undef, undef, undef, undef, undef, undef, undef, undef, undef]).toArray, []⟩) (by kernel_rfl) ?_
          refine wp_seq ?_
          refine wp_join (fun a w => ∃ (D_1 : Nat → Value) (x8_1 x9_1 : Value) (h_3 : Heap), a = ⟨([x0, x1, x2, undef, undef, undef, (.bool false), x25, x8_1, x9_1, x10, undef, undef, undef, undef, undef, x2, x17, x18, undef, x0, x21, x22, x23, x1, x25, x25, x27, x10, x2, x30, x31, (D 4), (D 5), (D_1 0), (D_1 1), (D_1 2), (D_1 3), (D_1 4), (D_1 5), (D_1 6), (D_1 7), (D_1 8), (D_1 9), (D_1 10), (D_1 11), (D_1 12), (D_1 13), (D_1 14), (D_1 15)] ++ [(D_1 16), (D_1 17), (D_1 18), (D_1 19), (D_1 20), undef, undef, undef, undef, undef, undef, undef, undef, undef, undef, undef, undef, undef, undef, undef, undef, undef, undef, undef, undef, undef, undef, undef, undef, undef, undef, undef, undef, undef, undef, undef, undef, undef, undef, undef, undef, undef, undef, undef, undef, undef, undef, undef, undef, undef] ++ [undef, undef, undef, undef, undef, undef, undef, undef, undef, undef]).toArray, []⟩ ∧ At w0 w h_3 ∧ betonylaw07_FifoKeeps_j2 (fun x8' x9' x10' h' => I (x8', x9', x10') h' ∧ m (x8', x9', x10') h' < m (x8, x9, x10) h_2) x10 x8_1 x9_1 h_3) ?_ ?_
          · refine wp_block ?_
            refine wp_seq ?_
            refine lwp_list ?_
            refine ls_move (x := x25) (by kernel_rfl) (by kernel_rfl) ?_
            refine ls_move (x := x2) (by kernel_rfl) (by kernel_rfl) ?_
            refine ls_move (x := x10) (by kernel_rfl) (by kernel_rfl) ?_
            refine ls_p (d := some 37) (by kernel_rfl) (by kernel_rfl) (p_ixs Try.underlying22 Try.sizeOf3 (by kernel_rfl) (by kernel_rfl) H) (fun x37 H => ?_)
            refine ls_y (d := some 38) (by kernel_rfl) (by kernel_rfl) HA_2 (y_ld Try.isAgg3 (by kernel_rfl) H) (fun x38 H => ?_)
            refine ls_d (d := some 39) (by kernel_rfl) (by kernel_rfl) HA_2 (d_call (by kernel_rfl) (by kernel_rfl) H) (fun x39 h_4 w_4 H HA_4 => ?_)
            refine ls_nil ?_
            refine then_normal ?_
            refine fr_eq (b := ⟨([x0, x1, x2, undef, undef, undef, (.bool false), x25, x8, x9, x10, undef, undef, undef, undef, undef, x2, x17, x18, undef, x0, x21, x22, x23, x1, x25, x25, x27, x10, x2, x30, x31, (D 4), (D 5), x25, x2, x10, x37, x38, x39, (D 12), (D 13), (D 14), (D 15), (D 16), (D 17), (D 18), (D 19), (D 20), (D 21)] ++ [(D 22), (D 23), (D 24), (D 25), (D 26), undef, undef, undef, undef, undef, undef, undef, undef, undef, undef, undef, undef, undef, undef, undef, undef, undef, undef, undef, undef, undef, undef, undef, undef, undef, undef, undef, undef, undef, undef, undef, undef, undef, undef, undef, undef, undef, undef, undef, undef, undef, undef, undef, undef, undef] ++ [undef, undef, undef, undef, undef, undef, undef, undef, undef, undef]).toArray, []⟩) (by kernel_rfl) ?_
            refine wp_if rfl H (fun H => ?_) (fun H => ?_)
            · refine wp_seq ?_
              refine lwp_list ?_
              refine ls_move (x := x9) (by kernel_rfl) (by kernel_rfl) ?_
              refine ls_move (x := x2) (by kernel_rfl) (by kernel_rfl) ?_
              refine ls_move (x := x10) (by kernel_rfl) (by kernel_rfl) ?_
              refine ls_p (d := some 43) (by kernel_rfl) (by kernel_rfl) (p_ixs Try.underlying22 Try.sizeOf3 (by kernel_rfl) (by kernel_rfl) H) (fun x43 H => ?_)
              refine ls_y (d := some 44) (by kernel_rfl) (by kernel_rfl) HA_4 (y_ld Try.isAgg3 (by kernel_rfl) H) (fun x44 H => ?_)
              refine ls_d (d := some 45) (by kernel_rfl) (by kernel_rfl) HA_4 (d_slit (zc := #[.int .i64 0]) Try.underlying22 Try.sizeOf3 (by decide) (.inr ⟨by decide, _, Try.zeroValue3, (by kernel_rfl)⟩) (by kernel_rfl) (by kernel_rfl) H) (fun x45 h_5 w_5 H HA_5 => ?_)
              refine ls_fr (b := ⟨([x0, x1, x2, undef, undef, undef, (.bool false), x25, x8, x9, x10, undef, undef, undef, undef, undef, x2, x17, x18, undef, x0, x21, x22, x23, x1, x25, x25, x27, x10, x2, x30, x31, (D 4), (D 5), x25, x2, x10, x37, x38, x39, x9, x2, x10, x43, x44, x45, (D 18), (D 19), (D 20), (D 21)] ++ [(D 22), (D 23), (D 24), (D 25), (D 26), undef, undef, undef, undef, undef, undef, undef, undef, undef, undef, undef, undef, undef, undef, undef, undef, undef, undef, undef, undef, undef, undef, undef, undef, undef, undef, undef, undef, undef, undef, undef, undef, undef, undef, undef, undef, undef, undef, undef, undef, undef, undef, undef, undef, undef] ++ [undef, undef, undef, undef, undef, undef, undef, undef, undef, undef]).toArray, []⟩) (by kernel_rfl) ?_
              refine ls_d (d := some 46) (by kernel_rfl) (by kernel_rfl) HA_5 (d_app (z := #[.int .i64 0]) Try.underlying22 Try.underlying22 (.inl ⟨_, rfl⟩) Try.typeInfo3 (by kernel_rfl) Try.sizeOf3 Try.zeroValue3 (by kernel_rfl) (by kernel_rfl) (by kernel_rfl) H) (fun x46 h_6 w_6 H HA_6 => ?_)
              refine ls_assign (x := x46) (by kernel_rfl) (by kernel_rfl) ?_
              refine ls_nil ?_
              refine then_normal ?_
              refine fr_eq (b := ⟨([x0, x1, x2, undef, undef, undef, (.bool false), x25, x8, x46, x10, undef, undef, undef, undef, undef, x2, x17, x18, undef, x0, x21, x22, x23, x1, x25, x25, x27, x10, x2, x30, x31, (D 4), (D 5), x25, x2, x10, x37, x38, x39, x9, x2, x10, x43, x44, x45, x46, (D 19), (D 20), (D 21)] ++ [(D 22), (D 23), (D 24), (D 25), (D 26), undef, undef, undef, undef, undef, undef, undef, undef, undef, undef, undef, undef, undef, undef, undef, undef, undef, undef, undef, undef, undef, undef, undef, undef, undef, undef, undef, undef, undef, undef, undef, undef, undef, undef, undef, undef, undef, undef, undef, undef, undef, undef, undef, undef, undef] ++ [undef, undef, undef, undef, undef, undef, undef, undef, undef, undef]).toArray, []⟩) (by kernel_rfl) ?_
              refine wp_seq ?_
              refine lwp_list ?_
              refine ls_move (x := x2) (by kernel_rfl) (by kernel_rfl) ?_
              refine ls_move (x := x10) (by kernel_rfl) (by kernel_rfl) ?_
              refine ls_p (d := some 49) (by kernel_rfl) (by kernel_rfl) (p_ixs Try.underlying22 Try.sizeOf3 (by kernel_rfl) (by kernel_rfl) H) (fun x49 H => ?_)
              refine ls_y (d := some 50) (by kernel_rfl) (by kernel_rfl) HA_6 (y_ld Try.isAgg3 (by kernel_rfl) H) (fun x50 H => ?_)
              refine ls_move (x := x1) (by kernel_rfl) (by kernel_rfl) ?_
              refine ls_p (d := some 52) (by kernel_rfl) (by kernel_rfl) (p_sEq (by kernel_rfl) (by kernel_rfl) H) (fun x52 H => ?_)
              refine ls_nil ?_
              refine then_normal ?_
              refine fr_eq (b := ⟨([x0, x1, x2, undef, undef, undef, (.bool false), x25, x8, x46, x10, undef, undef, undef, undef, undef, x2, x17, x18, undef, x0, x21, x22, x23, x1, x25, x25, x27, x10, x2, x30, x31, (D 4), (D 5), x25, x2, x10, x37, x38, x39, x9, x2, x10, x43, x44, x45, x46, x2, x10, x49] ++ [x50, x1, x52, (D 25), (D 26), undef, undef, undef, undef, undef, undef, undef, undef, undef, undef, undef, undef, undef, undef, undef, undef, undef, undef, undef, undef, undef, undef, undef, undef, undef, undef, undef, undef, undef, undef, undef, undef, undef, undef, undef, undef, undef, undef, undef, undef, undef, undef, undef, undef, undef] ++ [undef, undef, undef, undef, undef, undef, undef, undef, undef, undef]).toArray, []⟩) (by kernel_rfl) ?_
              refine wp_if rfl H (fun H => ?_) (fun H => ?_)
              · refine lwp_list ?_
                refine ls_move (x := x8) (by kernel_rfl) (by kernel_rfl) ?_
                refine ls_p (d := some 54) (by kernel_rfl) (by kernel_rfl) (p_add (by kernel_rfl) (by kernel_rfl) H) (fun x54 H => ?_)
                refine ls_assign (x := x54) (by kernel_rfl) (by kernel_rfl) ?_
                refine ls_nil ?_
                refine block_normal ?_
                exact ⟨(fun i => ([x25, x2, x10, x37, x38, x39, x9, x2, x10, x43, x44, x45, x46, x2, x10, x49, x50, x1, x52, x8, x54]).getD i undef), x54, x46, h_6, by kernel_rfl, HA_6, H⟩
              · refine wp_skip ?_
                refine block_normal ?_
                exact ⟨(fun i => ([x25, x2, x10, x37, x38, x39, x9, x2, x10, x43, x44, x45, x46, x2, x10, x49, x50, x1, x52, (D 25), (D 26)]).getD i undef), x8, x46, h_6, by kernel_rfl, HA_6, H⟩
            · refine wp_skip ?_
              refine block_normal ?_
              exact ⟨(fun i => ([x25, x2, x10, x37, x38, x39, (D 12), (D 13), (D 14), (D 15), (D 16), (D 17), (D 18), (D 19), (D 20), (D 21), (D 22), (D 23), (D 24), (D 25), (D 26)]).getD i undef), x8, x9, h_4, by kernel_rfl, HA_4, H⟩
          · rintro _ w_3 ⟨D_1, x8_1, x9_1, h_3, rfl, HA_3, H⟩
            unfold betonylaw07_FifoKeeps_j2 at H
            refine then_normal ?_
            refine fr_eq (b := ⟨([x0, x1, x2, undef, undef, undef, (.bool false), x25, x8_1, x9_1, x10, undef, undef, undef, undef, undef, x2, x17, x18, undef, x0, x21, x22, x23, x1, x25, x25, x27, x10, x2, x30, x31, (D 4), (D 5), (D_1 0), (D_1 1), (D_1 2), (D_1 3), (D_1 4), (D_1 5), (D_1 6), (D_1 7), (D_1 8), (D_1 9), (D_1 10), (D_1 11), (D_1 12), (D_1 13), (D_1 14), (D_1 15)] ++ [(D_1 16), (D_1 17), (D_1 18), (D_1 19), (D_1 20), undef, undef, undef, undef, undef, undef, undef, undef, undef, undef, undef, undef, undef, undef, undef, undef, undef, undef, undef, undef, undef, undef, undef, undef, undef, undef, undef, undef, undef, undef, undef, undef, undef, undef, undef, undef, undef, undef, undef, undef, undef, undef, undef, undef, undef] ++ [undef, undef, undef, undef, undef, undef, undef, undef, undef, undef]).toArray, []⟩) (by kernel_rfl) ?_
            refine lwp_list ?_
            refine ls_move (x := x10) (by kernel_rfl) (by kernel_rfl) ?_
            refine ls_p (d := some 33) (by kernel_rfl) (by kernel_rfl) (p_add (by kernel_rfl) (by kernel_rfl) H) (fun x33 H => ?_)
            refine ls_assign (x := x33) (by kernel_rfl) (by kernel_rfl) ?_
            refine ls_nil ?_
            exact ⟨⟨(fun i => ([x10, x2, x30, x31, x10, x33, (D_1 0), (D_1 1), (D_1 2), (D_1 3), (D_1 4), (D_1 5), (D_1 6), (D_1 7), (D_1 8), (D_1 9), (D_1 10), (D_1 11), (D_1 12), (D_1 13), (D_1 14), (D_1 15), (D_1 16), (D_1 17), (D_1 18), (D_1 19), (D_1 20)]).getD i undef), x8_1, x9_1, x33, h_3, by kernel_rfl, HA_3, H.1⟩, loop_lt HA_3.heap HA_2.heap (by kernel_rfl) (by kernel_rfl) H.2⟩
        · refine wp_exit ?_
          refine then_exit ?_
          refine then_exit ?_
          refine block_exit ?_
          refine then_normal ?_
          refine fr_eq (b := ⟨([x0, x1, x2, undef, undef, undef, (.bool false), x25, x8, x9, x10, undef, undef, undef, undef, undef, x2, x17, x18, undef, x0, x21, x22, x23, x1, x25, x25, x27, x10, x2, x30, x31, (D 4), (D 5), (D 6), (D 7), (D 8), (D 9), (D 10), (D 11), (D 12), (D 13), (D 14), (D 15), (D 16), (D 17), (D 18), (D 19), (D 20), (D 21)] ++ [(D 22), (D 23), (D 24), (D 25), (D 26), undef, undef, undef, undef, undef, undef, undef, undef, undef, undef, undef, undef, undef, undef, undef, undef, undef, undef, undef, undef, undef, undef, undef, undef, undef, undef, undef, undef, undef, undef, undef, undef, undef, undef, undef, undef, undef, undef, undef, undef, undef, undef, undef, undef, undef] ++ [undef, undef, undef, undef, undef, undef, undef, undef, undef, undef]).toArray, []⟩) (by kernel_rfl) ?_
          refine wp_seq ?_
          refine lwp_list ?_
          refine ls_assign (x := (.bool false)) (by kernel_rfl) (by kernel_rfl) ?_
          refine ls_nil ?_
          refine then_normal ?_
          refine fr_eq (b := ⟨([x0, x1, x2, undef, undef, undef, (.bool false), x25, x8, x9, x10, (.bool false), undef, undef, undef, undef, x2, x17, x18, undef, x0, x21, x22, x23, x1, x25, x25, x27, x10, x2, x30, x31, (D 4), (D 5), (D 6), (D 7), (D 8), (D 9), (D 10), (D 11), (D 12), (D 13), (D 14), (D 15), (D 16), (D 17), (D 18), (D 19), (D 20), (D 21)] ++ [(D 22), (D 23), (D 24), (D 25), (D 26), undef, undef, undef, undef, undef, undef, undef, undef, undef, undef, undef, undef, undef, undef, undef, undef, undef, undef, undef, undef, undef, undef, undef, undef, undef, undef, undef, undef, undef, undef, undef, undef, undef, undef, undef, undef, undef, undef, undef, undef, undef, undef, undef, undef, undef] ++ [undef, undef, undef, undef, undef, undef, undef, undef, undef, undef]).toArray, []⟩) (by kernel_rfl) ?_
          refine wp_seq ?_
          refine wp_seq ?_
          refine lwp_list ?_
          refine ls_assign (x := (.int .i64 0)) (by kernel_rfl) (by kernel_rfl) ?_
          refine ls_nil ?_
          refine then_normal ?_
          refine fr_eq (b := ⟨([x0, x1, x2, undef, undef, undef, (.bool false), x25, x8, x9, x10, (.bool false), (.int .i64 0), undef, undef, undef, x2, x17, x18, undef, x0, x21, x22, x23, x1, x25, x25, x27, x10, x2, x30, x31, (D 4), (D 5), (D 6), (D 7), (D 8), (D 9), (D 10), (D 11), (D 12), (D 13), (D 14), (D 15), (D 16), (D 17), (D 18), (D 19), (D 20), (D 21)] ++ [(D 22), (D 23), (D 24), (D 25), (D 26), undef, undef, undef, undef, undef, undef, undef, undef, undef, undef, undef, undef, undef, undef, undef, undef, undef, undef, undef, undef, undef, undef, undef, undef, undef, undef, undef, undef, undef, undef, undef, undef, undef, undef, undef, undef, undef, undef, undef, undef, undef, undef, undef, undef, undef] ++ [undef, undef, undef, undef, undef, undef, undef, undef, undef, undef]).toArray, []⟩) (by kernel_rfl) ?_
          refine wp_block ?_
          obtain ⟨I_1, m_1, H0, HB⟩ := H
          refine wp_loop (fun a w => ∃ (D_2 : Nat → Value) (x11 x12 : Value) (h_7 : Heap), a = ⟨([x0, x1, x2, undef, undef, undef, (.bool false), x25, x8, x9, x10, x11, x12, undef, undef, undef, x2, x17, x18, undef, x0, x21, x22, x23, x1, x25, x25, x27, x10, x2, x30, x31, (D 4), (D 5), (D 6), (D 7), (D 8), (D 9), (D 10), (D 11), (D 12), (D 13), (D 14), (D 15), (D 16), (D 17), (D 18), (D 19), (D 20), (D 21)] ++ [(D 22), (D 23), (D 24), (D 25), (D 26), (D_2 0), (D_2 1), (D_2 2), (D_2 3), (D_2 4), (D_2 5), (D_2 6), (D_2 7), (D_2 8), (D_2 9), (D_2 10), (D_2 11), (D_2 12), (D_2 13), (D_2 14), undef, undef, undef, undef, undef, undef, undef, undef, undef, undef, undef, undef, undef, undef, undef, undef, undef, undef, undef, undef, undef, undef, undef, undef, undef, undef, undef, undef, undef, undef] ++ [undef, undef, undef, undef, undef, undef, undef, undef, undef, undef]).toArray, []⟩ ∧ At w0 w h_7 ∧ I_1 (x11, x12) h_7) (fun a w => m_1 ((a.tmps.getD 11 undef), (a.tmps.getD 12 undef)) w.heap) ?_ ?_
          · exact ⟨(fun i => ([undef, undef, undef, undef, undef, undef, undef, undef, undef, undef, undef, undef, undef, undef, undef]).getD i undef), (.bool false), (.int .i64 0), h_2, by kernel_rfl, HA_2, H0⟩
          · rintro _ w_7 ⟨D_2, x11, x12, h_7, rfl, HA_7, HI⟩
            have H : betonylaw07_FifoKeeps_l3 R x0 x1 x2 x25 x8 x9 (fun x11' x12' h' => I_1 (x11', x12') h' ∧ m_1 (x11', x12') h' < m_1 (x11, x12) h_7) x11 x12 h_7 := HB (x11, x12) h_7 HI
            clear HB H0 HI
            unfold betonylaw07_FifoKeeps_l3 at H
            refine wp_seq ?_
            refine wp_seq ?_
            refine lwp_list ?_
            refine ls_move (x := x12) (by kernel_rfl) (by kernel_rfl) ?_
            refine ls_move (x := x2) (by kernel_rfl) (by kernel_rfl) ?_
            refine ls_p (d := some 57) (by kernel_rfl) (by kernel_rfl) (p_len Try.underlying22 (by kernel_rfl) H) (fun x57 H => ?_)
            refine ls_p (d := some 58) (by kernel_rfl) (by kernel_rfl) (p_sLt (by kernel_rfl) (by kernel_rfl) H) (fun x58 H => ?_)
            refine ls_nil ?_
            refine then_normal ?_
            refine fr_eq (b := ⟨([x0, x1, x2, undef, undef, undef, (.bool false), x25, x8, x9, x10, x11, x12, undef, undef, undef, x2, x17, x18, undef, x0, x21, x22, x23, x1, x25, x25, x27, x10, x2, x30, x31, (D 4), (D 5), (D 6), (D 7), (D 8), (D 9), (D 10), (D 11), (D 12), (D 13), (D 14), (D 15), (D 16), (D 17), (D 18), (D 19), (D 20), (D 21)] ++ [(D 22), (D 23), (D 24), (D 25), (D 26), x12, x2, x57, x58, (D_2 4), (D_2 5), (D_2 6), (D_2 7), (D_2 8), (D_2 9), (D_2 10), (D_2 11), (D_2 12), (D_2 13), (D_2 14), undef, undef, undef, undef, undef, undef, undef, undef, undef, undef, undef, undef, undef, undef, undef, undef, undef, undef, undef, undef, undef, undef, undef, undef, undef, undef, undef, undef, undef, undef] ++ [undef, undef, undef, undef, undef, undef, undef, undef, undef, undef]).toArray, []⟩) (by kernel_rfl) ?_
            refine wp_if rfl H (fun H => ?_) (fun H => ?_)
            · refine wp_skip ?_
              refine then_normal ?_
              refine fr_eq (b := ⟨([x0, x1, x2, undef, undef, undef, (.bool false), x25, x8, x9, x10, x11, x12, undef, undef, undef, x2, x17, x18, undef, x0, x21, x22, x23, x1, x25, x25, x27, x10, x2, x30, x31, (D 4), (D 5), (D 6), (D 7), (D 8), (D 9), (D 10), (D 11), (D 12), (D 13), (D 14), (D 15), (D 16), (D 17), (D 18), (D 19), (D 20), (D 21)] ++ [(D 22), (D 23), (D 24), (D 25), (D 26), x12, x2, x57, x58, (D_2 4), (D_2 5), (D_2 6), (D_2 7), (D_2 8), (D_2 9), (D_2 10), (D_2 11), (D_2 12), (D_2 13), (D_2 14), undef, undef, undef, undef, undef, undef, undef, undef, undef, undef, undef, undef, undef, undef, undef, undef, undef, undef, undef, undef, undef, undef, undef, undef, undef, undef, undef, undef, undef, undef] ++ [undef, undef, undef, undef, undef, undef, undef, undef, undef, undef]).toArray, []⟩) (by kernel_rfl) ?_
              refine wp_seq ?_
              refine wp_block ?_
              refine lwp_list ?_
              refine ls_move (x := x11) (by kernel_rfl) (by kernel_rfl) ?_
              refine ls_move (x := x11) (by kernel_rfl) (by kernel_rfl) ?_
              refine ls_or [(), (), (), (), (), (), ()] (fun K a w => ∃ (D_3 : Nat → Value) (x69 : Value), a = ⟨([x0, x1, x2, undef, undef, undef, (.bool false), x25, x8, x9, x10, x11, x12, undef, undef, undef, x2, x17, x18, undef, x0, x21, x22, x23, x1, x25, x25, x27, x10, x2, x30, x31, (D 4), (D 5), (D 6), (D 7), (D 8), (D 9), (D 10), (D 11), (D 12), (D 13), (D 14), (D 15), (D 16), (D 17), (D 18), (D 19), (D 20), (D 21)] ++ [(D 22), (D 23), (D 24), (D 25), (D 26), x12, x2, x57, x58, (D_2 4), (D_2 5), x11, x11, (D_3 0), (D_3 1), (D_3 2), (D_3 3), (D_3 4), (D_3 5), x69, undef, undef, undef, undef, undef, undef, undef, undef, undef, undef, undef, undef, undef, undef, undef, undef, undef, undef, undef, undef, undef, undef, undef, undef, undef, undef, undef, undef, undef, undef] ++ [undef, undef, undef, undef, undef, undef, undef, undef, undef, undef]).toArray, []⟩ ∧ At w0 w h_7 ∧ K x69) H (fun hb H => ?_) (fun hb H => ?_) ?_
              · refine ls_move (x := x2) (by rw [hb]; kernel_rfl) (by kernel_rfl) ?_
                refine ls_move (x := x12) (by rw [hb]; kernel_rfl) (by kernel_rfl) ?_
                refine ls_p (d := some 65) (by kernel_rfl) (by rw [hb]; kernel_rfl) (p_ixs Try.underlying22 Try.sizeOf3 (by kernel_rfl) (by kernel_rfl) H) (fun x65 H => ?_)
                refine ls_y (d := some 66) (by kernel_rfl) (by rw [hb]; kernel_rfl) HA_7 (y_ld Try.isAgg3 (by kernel_rfl) H) (fun x66 H => ?_)
                refine ls_fr (b := ⟨([x0, x1, x2, undef, undef, undef, (.bool false), x25, x8, x9, x10, x11, x12, undef, undef, undef, x2, x17, x18, undef, x0, x21, x22, x23, x1, x25, x25, x27, x10, x2, x30, x31, (D 4), (D 5), (D 6), (D 7), (D 8), (D 9), (D 10), (D 11), (D 12), (D 13), (D 14), (D 15), (D 16), (D 17), (D 18), (D 19), (D 20), (D 21)] ++ [(D 22), (D 23), (D 24), (D 25), (D 26), x12, x2, x57, x58, (D_2 4), (D_2 5), x11, x11, x2, x12, x65, x66, (D_2 12), (D_2 13), (D_2 14), undef, undef, undef, undef, undef, undef, undef, undef, undef, undef, undef, undef, undef, undef, undef, undef, undef, undef, undef, undef, undef, undef, undef, undef, undef, undef, undef, undef, undef, undef] ++ [undef, undef, undef, undef, undef, undef, undef, undef, undef, undef]).toArray, []⟩) (by kernel_rfl) ?_
                refine ls_move (x := x1) (by rw [hb]; kernel_rfl) (by kernel_rfl) ?_
                refine ls_p (d := some 68) (by kernel_rfl) (by rw [hb]; kernel_rfl) (p_sEq (by kernel_rfl) (by kernel_rfl) H) (fun x68 H => ?_)
                refine ls_pick_f (y := x68) (by kernel_rfl) (by rw [hb]; kernel_rfl) (by kernel_rfl) ?_
                refine ls_nil ?_
                refine then_normal ?_
                exact ⟨(fun i => ([x2, x12, x65, x66, x1, x68]).getD i undef), x68, by kernel_rfl, HA_7, H⟩
              · refine ls_skip (d := some 63) (by kernel_rfl) (by rw [hb]; kernel_rfl) ?_
                refine ls_skip (d := some 64) (by kernel_rfl) (by rw [hb]; kernel_rfl) ?_
                refine ls_skip (d := some 65) (by kernel_rfl) (by rw [hb]; kernel_rfl) ?_
                refine ls_skip (d := some 66) (by kernel_rfl) (by rw [hb]; kernel_rfl) ?_
                refine ls_fr (b := ⟨([x0, x1, x2, undef, undef, undef, (.bool false), x25, x8, x9, x10, x11, x12, undef, undef, undef, x2, x17, x18, undef, x0, x21, x22, x23, x1, x25, x25, x27, x10, x2, x30, x31, (D 4), (D 5), (D 6), (D 7), (D 8), (D 9), (D 10), (D 11), (D 12), (D 13), (D 14), (D 15), (D 16), (D 17), (D 18), (D 19), (D 20), (D 21)] ++ [(D 22), (D 23), (D 24), (D 25), (D 26), x12, x2, x57, x58, (D_2 4), (D_2 5), x11, x11, undef, undef, undef, undef, (D_2 12), (D_2 13), (D_2 14), undef, undef, undef, undef, undef, undef, undef, undef, undef, undef, undef, undef, undef, undef, undef, undef, undef, undef, undef, undef, undef, undef, undef, undef, undef, undef, undef, undef, undef, undef] ++ [undef, undef, undef, undef, undef, undef, undef, undef, undef, undef]).toArray, []⟩) (by kernel_rfl) ?_
                refine ls_skip (d := some 67) (by kernel_rfl) (by rw [hb]; kernel_rfl) ?_
                refine ls_skip (d := some 68) (by kernel_rfl) (by rw [hb]; kernel_rfl) ?_
                refine ls_pick_t (x := (.bool true)) (by kernel_rfl) (by rw [hb]; kernel_rfl) (by kernel_rfl) ?_
                refine ls_nil ?_
                refine then_normal ?_
                exact ⟨(fun i => ([undef, undef, undef, undef, undef, undef]).getD i undef), (.bool true), by kernel_rfl, HA_7, H⟩
              · rintro _ w_8 ⟨D_3, x69, rfl, HA_8, H⟩
                refine ls_assign (x := x69) (by kernel_rfl) (by kernel_rfl) ?_
                refine ls_nil ?_
                refine block_normal ?_
                refine then_normal ?_
                refine fr_eq (b := ⟨([x0, x1, x2, undef, undef, undef, (.bool false), x25, x8, x9, x10, x69, x12, undef, undef, undef, x2, x17, x18, undef, x0, x21, x22, x23, x1, x25, x25, x27, x10, x2, x30, x31, (D 4), (D 5), (D 6), (D 7), (D 8), (D 9), (D 10), (D 11), (D 12), (D 13), (D 14), (D 15), (D 16), (D 17), (D 18), (D 19), (D 20), (D 21)] ++ [(D 22), (D 23), (D 24), (D 25), (D 26), x12, x2, x57, x58, (D_2 4), (D_2 5), x11, x11, (D_3 0), (D_3 1), (D_3 2), (D_3 3), (D_3 4), (D_3 5), x69, undef, undef, undef, undef, undef, undef, undef, undef, undef, undef, undef, undef, undef, undef, undef, undef, undef, undef, undef, undef, undef, undef, undef, undef, undef, undef, undef, undef, undef, undef] ++ [undef, undef, undef, undef, undef, undef, undef, undef, undef, undef]).toArray, []⟩) (by kernel_rfl) ?_
                refine lwp_list ?_
                refine ls_move (x := x12) (by kernel_rfl) (by kernel_rfl) ?_
                refine ls_p (d := some 60) (by kernel_rfl) (by kernel_rfl) (p_add (by kernel_rfl) (by kernel_rfl) H) (fun x60 H => ?_)
                refine ls_assign (x := x60) (by kernel_rfl) (by kernel_rfl) ?_
                refine ls_nil ?_
                exact ⟨⟨(fun i => ([x12, x2, x57, x58, x12, x60, x11, x11, (D_3 0), (D_3 1), (D_3 2), (D_3 3), (D_3 4), (D_3 5), x69]).getD i undef), x69, x60, h_7, by kernel_rfl, HA_8, H.1⟩, loop_lt HA_8.heap HA_7.heap (by kernel_rfl) (by kernel_rfl) H.2⟩
            · refine wp_exit ?_
              refine then_exit ?_
              refine then_exit ?_
              refine block_exit ?_
              refine then_normal ?_
              refine fr_eq (b := ⟨([x0, x1, x2, undef, undef, undef, (.bool false), x25, x8, x9, x10, x11, x12, undef, undef, undef, x2, x17, x18, undef, x0, x21, x22, x23, x1, x25, x25, x27, x10, x2, x30, x31, (D 4), (D 5), (D 6), (D 7), (D 8), (D 9), (D 10), (D 11), (D 12), (D 13), (D 14), (D 15), (D 16), (D 17), (D 18), (D 19), (D 20), (D 21)] ++ [(D 22), (D 23), (D 24), (D 25), (D 26), x12, x2, x57, x58, (D_2 4), (D_2 5), (D_2 6), (D_2 7), (D_2 8), (D_2 9), (D_2 10), (D_2 11), (D_2 12), (D_2 13), (D_2 14), undef, undef, undef, undef, undef, undef, undef, undef, undef, undef, undef, undef, undef, undef, undef, undef, undef, undef, undef, undef, undef, undef, undef, undef, undef, undef, undef, undef, undef, undef] ++ [undef, undef, undef, undef, undef, undef, undef, undef, undef, undef]).toArray, []⟩) (by kernel_rfl) ?_
              refine wp_seq ?_
              refine wp_seq ?_
              refine lwp_list ?_
              refine ls_move (x := x11) (by kernel_rfl) (by kernel_rfl) ?_
              refine ls_move (x := x8) (by kernel_rfl) (by kernel_rfl) ?_
              refine ls_p (d := some 72) (by kernel_rfl) (by kernel_rfl) (p_sGt (by kernel_rfl) (by kernel_rfl) H) (fun x72 H => ?_)
              refine ls_p (d := some 73) (by kernel_rfl) (by kernel_rfl) (p_neqB Try.underlying4 (by kernel_rfl) (by kernel_rfl) H) (fun x73 H => ?_)
              refine ls_move (x := x73) (by kernel_rfl) (by kernel_rfl) ?_
              refine ls_orh [(), (), (), (), (), (), (), ()] (fun K a w => ∃ (D_4 : Nat → Value) (x82 : Value) (h_8 : Heap), a = ⟨([x0, x1, x2, undef, undef, undef, (.bool false), x25, x8, x9, x10, x11, x12, undef, undef, undef, x2, x17, x18, undef, x0, x21, x22, x23, x1, x25, x25, x27, x10, x2, x30, x31, (D 4), (D 5), (D 6), (D 7), (D 8), (D 9), (D 10), (D 11), (D 12), (D 13), (D 14), (D 15), (D 16), (D 17), (D 18), (D 19), (D 20), (D 21)] ++ [(D 22), (D 23), (D 24), (D 25), (D 26), x12, x2, x57, x58, (D_2 4), (D_2 5), (D_2 6), (D_2 7), (D_2 8), (D_2 9), (D_2 10), (D_2 11), (D_2 12), (D_2 13), (D_2 14), x11, x8, x72, x73, x73, (D_4 0), (D_4 1), (D_4 2), (D_4 3), (D_4 4), (D_4 5), (D_4 6), x82, undef, undef, undef, undef, undef, undef, undef, undef, undef, undef, undef, undef, undef, undef, undef, undef, undef] ++ [undef, undef, undef, undef, undef, undef, undef, undef, undef, undef]).toArray, []⟩ ∧ At w0 w h_8 ∧ K x82 h_8) H (fun hb_3 H => ?_) (fun hb_3 H => ?_) ?_
              · refine ls_move (x := x25) (by rw [hb_3]; kernel_rfl) (by kernel_rfl) ?_
                refine ls_fr (b := ⟨([x0, x1, x2, undef, undef, undef, (.bool false), x25, x8, x9, x10, x11, x12, undef, undef, undef, x2, x17, x18, undef, x0, x21, x22, x23, x1, x25, x25, x27, x10, x2, x30, x31, (D 4), (D 5), (D 6), (D 7), (D 8), (D 9), (D 10), (D 11), (D 12), (D 13), (D 14), (D 15), (D 16), (D 17), (D 18), (D 19), (D 20), (D 21)] ++ [(D 22), (D 23), (D 24), (D 25), (D 26), x12, x2, x57, x58, (D_2 4), (D_2 5), (D_2 6), (D_2 7), (D_2 8), (D_2 9), (D_2 10), (D_2 11), (D_2 12), (D_2 13), (D_2 14), x11, x8, x72, x73, x73, x25, undef, undef, undef, undef, undef, undef, undef, undef, undef, undef, undef, undef, undef, undef, undef, undef, undef, undef, undef, undef, undef, undef, undef, undef] ++ [undef, undef, undef, undef, undef, undef, undef, undef, undef, undef]).toArray, []⟩) (by kernel_rfl) ?_
                refine ls_d (d := some 76) (by kernel_rfl) (by rw [hb_3]; kernel_rfl) HA_7 (d_call (by kernel_rfl) (by kernel_rfl) H) (fun x76 h_14 w_16 H HA_16 => ?_)
                refine ls_move (x := x0) (by rw [hb_3]; kernel_rfl) (by kernel_rfl) ?_
                refine ls_p (d := some 78) (by kernel_rfl) (by rw [hb_3]; kernel_rfl) (p_conv Try.underlying5 Try.underlying3 (by kernel_rfl) H) (fun x78 H => ?_)
                refine ls_p (d := some 79) (by kernel_rfl) (by rw [hb_3]; kernel_rfl) (p_rem (by kernel_rfl) (by kernel_rfl) H) (fun x79 H => ?_)
                refine ls_p (d := some 80) (by kernel_rfl) (by rw [hb_3]; kernel_rfl) (p_add (by kernel_rfl) (by kernel_rfl) H) (fun x80 H => ?_)
                refine ls_p (d := some 81) (by kernel_rfl) (by rw [hb_3]; kernel_rfl) (p_sGt (by kernel_rfl) (by kernel_rfl) H) (fun x81 H => ?_)
                refine ls_fr (b := ⟨([x0, x1, x2, undef, undef, undef, (.bool false), x25, x8, x9, x10, x11, x12, undef, undef, undef, x2, x17, x18, undef, x0, x21, x22, x23, x1, x25, x25, x27, x10, x2, x30, x31, (D 4), (D 5), (D 6), (D 7), (D 8), (D 9), (D 10), (D 11), (D 12), (D 13), (D 14), (D 15), (D 16), (D 17), (D 18), (D 19), (D 20), (D 21)] ++ [(D 22), (D 23), (D 24), (D 25), (D 26), x12, x2, x57, x58, (D_2 4), (D_2 5), (D_2 6), (D_2 7), (D_2 8), (D_2 9), (D_2 10), (D_2 11), (D_2 12), (D_2 13), (D_2 14), x11, x8, x72, x73, x73, x25, x76, x0, x78, x79, x80, x81, undef, undef, undef, undef, undef, undef, undef, undef, undef, undef, undef, undef, undef, undef, undef, undef, undef, undef] ++ [undef, undef, undef, undef, undef, undef, undef, undef, undef, undef]).toArray, []⟩) (by kernel_rfl) ?_
                refine ls_pick_f (y := x81) (by kernel_rfl) (by rw [hb_3]; kernel_rfl) (by kernel_rfl) ?_
                refine ls_nil ?_
                refine then_normal ?_
                exact ⟨(fun i => ([x25, x76, x0, x78, x79, x80, x81]).getD i undef), x81, h_14, by kernel_rfl, HA_16, H⟩
              · refine ls_skip (d := some 75) (by kernel_rfl) (by rw [hb_3]; kernel_rfl) ?_
                refine ls_fr (b := ⟨([x0, x1, x2, undef, undef, undef, (.bool false), x25, x8, x9, x10, x11, x12, undef, undef, undef, x2, x17, x18, undef, x0, x21, x22, x23, x1, x25, x25, x27, x10, x2, x30, x31, (D 4), (D 5), (D 6), (D 7), (D 8), (D 9), (D 10), (D 11), (D 12), (D 13), (D 14), (D 15), (D 16), (D 17), (D 18), (D 19), (D 20), (D 21)] ++ [(D 22), (D 23), (D 24), (D 25), (D 26), x12, x2, x57, x58, (D_2 4), (D_2 5), (D_2 6), (D_2 7), (D_2 8), (D_2 9), (D_2 10), (D_2 11), (D_2 12), (D_2 13), (D_2 14), x11, x8, x72, x73, x73, undef, undef, undef, undef, undef, undef, undef, undef, undef, undef, undef, undef, undef, undef, undef, undef, undef, undef, undef, undef, undef, undef, undef, undef, undef] ++ [undef, undef, undef, undef, undef, undef, undef, undef, undef, undef]).toArray, []⟩) (by kernel_rfl) ?_
                refine ls_skip (d := some 76) (by kernel_rfl) (by rw [hb_3]; kernel_rfl) ?_
                refine ls_skip (d := some 77) (by kernel_rfl) (by rw [hb_3]; kernel_rfl) ?_
                refine ls_skip (d := some 78) (by kernel_rfl) (by rw [hb_3]; kernel_rfl) ?_
                refine ls_skip (d := some 79) (by kernel_rfl) (by rw [hb_3]; kernel_rfl) ?_
                refine ls_skip (d := some 80) (by kernel_rfl) (by rw [hb_3]; kernel_rfl) ?_
                refine ls_skip (d := some 81) (by kernel_rfl) (by rw [hb_3]; kernel_rfl) ?_
                refine ls_fr (b := ⟨([x0, x1, x2, undef, undef, undef, (.bool false), x25, x8, x9, x10, x11, x12, undef, undef, undef, x2, x17, x18, undef, x0, x21, x22, x23, x1, x25, x25, x27, x10, x2, x30, x31, (D 4), (D 5), (D 6), (D 7), (D 8), (D 9), (D 10), (D 11), (D 12), (D 13), (D 14), (D 15), (D 16), (D 17), (D 18), (D 19), (D 20), (D 21)] ++ [(D 22), (D 23), (D 24), (D 25), (D 26), x12, x2, x57, x58, (D_2 4), (D_2 5), (D_2 6), (D_2 7), (D_2 8), (D_2 9), (D_2 10), (D_2 11), (D_2 12), (D_2 13), (D_2 14), x11, x8, x72, x73, x73, undef, undef, undef, undef, undef, undef, undef, undef, undef, undef, undef, undef, undef, undef, undef, undef, undef, undef, undef, undef, undef, undef, undef, undef, undef] ++ [undef, undef, undef, undef, undef, undef, undef, undef, undef, undef]).toArray, []⟩) (by kernel_rfl) ?_
                refine ls_pick_t (x := (.bool true)) (by kernel_rfl) (by rw [hb_3]; kernel_rfl) (by kernel_rfl) ?_
                refine ls_nil ?_
                refine then_normal ?_
                exact ⟨(fun i => ([undef, undef, undef, undef, undef, undef, undef]).getD i undef), (.bool true), h_7, by kernel_rfl, HA_7, H⟩
              · rintro _ w_9 ⟨D_4, x82, h_8, rfl, HA_9, H⟩
                refine ls_nil ?_
                refine then_normal ?_
                refine fr_eq (b := ⟨([x0, x1, x2, undef, undef, undef, (.bool false), x25, x8, x9, x10, x11, x12, undef, undef, undef, x2, x17, x18, undef, x0, x21, x22, x23, x1, x25, x25, x27, x10, x2, x30, x31, (D 4), (D 5), (D 6), (D 7), (D 8), (D 9), (D 10), (D 11), (D 12), (D 13), (D 14), (D 15), (D 16), (D 17), (D 18), (D 19), (D 20), (D 21)] ++ [(D 22), (D 23), (D 24), (D 25), (D 26), x12, x2, x57, x58, (D_2 4), (D_2 5), (D_2 6), (D_2 7), (D_2 8), (D_2 9), (D_2 10), (D_2 11), (D_2 12), (D_2 13), (D_2 14), x11, x8, x72, x73, x73, (D_4 0), (D_4 1), (D_4 2), (D_4 3), (D_4 4), (D_4 5), (D_4 6), x82, undef, undef, undef, undef, undef, undef, undef, undef, undef, undef, undef, undef, undef, undef, undef, undef, undef] ++ [undef, undef, undef, undef, undef, undef, undef, undef, undef, undef]).toArray, []⟩) (by kernel_rfl) ?_
                refine wp_if rfl H (fun H => ?_) (fun H => ?_)
                · refine wp_seq ?_
                  refine lwp_list ?_
                  refine ls_assign (x := (.bool false)) (by kernel_rfl) (by kernel_rfl) ?_
                  refine ls_nil ?_
                  refine then_normal ?_
                  refine fr_eq (b := ⟨([x0, x1, x2, undef, undef, undef, (.bool false), x25, x8, x9, x10, x11, x12, undef, undef, undef, x2, x17, x18, undef, x0, x21, x22, x23, x1, x25, x25, x27, x10, x2, x30, x31, (D 4), (D 5), (D 6), (D 7), (D 8), (D 9), (D 10), (D 11), (D 12), (D 13), (D 14), (D 15), (D 16), (D 17), (D 18), (D 19), (D 20), (D 21)] ++ [(D 22), (D 23), (D 24), (D 25), (D 26), x12, x2, x57, x58, (D_2 4), (D_2 5), (D_2 6), (D_2 7), (D_2 8), (D_2 9), (D_2 10), (D_2 11), (D_2 12), (D_2 13), (D_2 14), x11, x8, x72, x73, x73, (D_4 0), (D_4 1), (D_4 2), (D_4 3), (D_4 4), (D_4 5), (D_4 6), x82, undef, undef, undef, undef, undef, undef, undef, undef, undef, undef, undef, undef, undef, undef, undef, undef, undef] ++ [undef, undef, undef, undef, undef, undef, undef, undef, undef, undef]).toArray, []⟩) (by kernel_rfl) ?_
                  refine wp_ret ?_
                  refine then_ret ?_
                  exact end1 (Try.results11) (by kernel_rfl) (by kernel_rfl) HA_9 H _ (.inr rfl)
                · refine wp_skip ?_
                  refine then_normal ?_
                  refine fr_eq (b := ⟨([x0, x1, x2, undef, undef, undef, (.bool false), x25, x8, x9, x10, x11, x12, undef, undef, undef, x2, x17, x18, undef, x0, x21, x22, x23, x1, x25, x25, x27, x10, x2, x30, x31, (D 4), (D 5), (D 6), (D 7), (D 8), (D 9), (D 10), (D 11), (D 12), (D 13), (D 14), (D 15), (D 16), (D 17), (D 18), (D 19), (D 20), (D 21)] ++ [(D 22), (D 23), (D 24), (D 25), (D 26), x12, x2, x57, x58, (D_2 4), (D_2 5), (D_2 6), (D_2 7), (D_2 8), (D_2 9), (D_2 10), (D_2 11), (D_2 12), (D_2 13), (D_2 14), x11, x8, x72, x73, x73, (D_4 0), (D_4 1), (D_4 2), (D_4 3), (D_4 4), (D_4 5), (D_4 6), x82, undef, undef, undef, undef, undef, undef, undef, undef, undef, undef, undef, undef, undef, undef, undef, undef, undef] ++ [undef, undef, undef, undef, undef, undef, undef, undef, undef, undef]).toArray, []⟩) (by kernel_rfl) ?_
                  refine wp_seq ?_
                  refine wp_seq ?_
                  refine lwp_list ?_
                  refine ls_assign (x := (.int .i64 0)) (by kernel_rfl) (by kernel_rfl) ?_
                  refine ls_nil ?_
                  refine then_normal ?_
                  refine fr_eq (b := ⟨([x0, x1, x2, undef, undef, undef, (.bool false), x25, x8, x9, x10, x11, x12, (.int .i64 0), undef, undef, x2, x17, x18, undef, x0, x21, x22, x23, x1, x25, x25, x27, x10, x2, x30, x31, (D 4), (D 5), (D 6), (D 7), (D 8), (D 9), (D 10), (D 11), (D 12), (D 13), (D 14), (D 15), (D 16), (D 17), (D 18), (D 19), (D 20), (D 21)] ++ [(D 22), (D 23), (D 24), (D 25), (D 26), x12, x2, x57, x58, (D_2 4), (D_2 5), (D_2 6), (D_2 7), (D_2 8), (D_2 9), (D_2 10), (D_2 11), (D_2 12), (D_2 13), (D_2 14), x11, x8, x72, x73, x73, (D_4 0), (D_4 1), (D_4 2), (D_4 3), (D_4 4), (D_4 5), (D_4 6), x82, undef, undef, undef, undef, undef, undef, undef, undef, undef, undef, undef, undef, undef, undef, undef, undef, undef] ++ [undef, undef, undef, undef, undef, undef, undef, undef, undef, undef]).toArray, []⟩) (by kernel_rfl) ?_
                  refine wp_block ?_
                  obtain ⟨I_2, m_2, H0, HB⟩ := H
                  refine wp_loop (fun a w => ∃ (D_5 : Nat → Value) (x13 : Value) (h_9 : Heap), a = ⟨([x0, x1, x2, undef, undef, undef, (D_5 0), x25, x8, x9, x10, x11, x12, x13, (D_5 1), (D_5 2), x2, x17, x18, undef, x0, x21, x22, x23, x1, x25, x25, x27, x10, x2, x30, x31, (D 4), (D 5), (D 6), (D 7), (D 8), (D 9), (D 10), (D 11), (D 12), (D 13), (D 14), (D 15), (D 16), (D 17), (D 18), (D 19), (D 20), (D 21)] ++ [(D 22), (D 23), (D 24), (D 25), (D 26), x12, x2, x57, x58, (D_2 4), (D_2 5), (D_2 6), (D_2 7), (D_2 8), (D_2 9), (D_2 10), (D_2 11), (D_2 12), (D_2 13), (D_2 14), x11, x8, x72, x73, x73, (D_4 0), (D_4 1), (D_4 2), (D_4 3), (D_4 4), (D_4 5), (D_4 6), x82, (D_5 3), (D_5 4), (D_5 5), (D_5 6), (D_5 7), (D_5 8), (D_5 9), (D_5 10), (D_5 11), (D_5 12), (D_5 13), (D_5 14), (D_5 15), (D_5 16), (D_5 17), (D_5 18), (D_5 19)] ++ [(D_5 20), (D_5 21), (D_5 22), (D_5 23), undef, undef, undef, undef, undef, undef]).toArray, []⟩ ∧ At w0 w h_9 ∧ I_2 x13 h_9) (fun a w => m_2 (a.tmps.getD 13 undef) w.heap) ?_ ?_
                  · exact ⟨(fun i => ([(.bool false), undef, undef, undef, undef, undef, undef, undef, undef, undef, undef, undef, undef, undef, undef, undef, undef, undef, undef, undef, undef, undef, undef, undef]).getD i undef), (.int .i64 0), h_8, by kernel_rfl, HA_9, H0⟩
                  · rintro _ w_10 ⟨D_5, x13, h_9, rfl, HA_10, HI⟩
                    have H : betonylaw07_FifoKeeps_l4 R x25 x9 (fun x13' h' => I_2 x13' h' ∧ m_2 x13' h' < m_2 x13 h_9) x13 h_9 := HB x13 h_9 HI
                    clear HB H0 HI
                    unfold betonylaw07_FifoKeeps_l4 at H
                    refine wp_seq ?_
                    refine wp_seq ?_
                    refine lwp_list ?_
                    refine ls_move (x := x13) (by kernel_rfl) (by kernel_rfl) ?_
                    refine ls_move (x := x9) (by kernel_rfl) (by kernel_rfl) ?_
                    refine ls_p (d := some 85) (by kernel_rfl) (by kernel_rfl) (p_len Try.underlying22 (by kernel_rfl) H) (fun x85 H => ?_)
                    refine ls_p (d := some 86) (by kernel_rfl) (by kernel_rfl) (p_sLt (by kernel_rfl) (by kernel_rfl) H) (fun x86 H => ?_)
                    refine ls_nil ?_
                    refine then_normal ?_
                    refine fr_eq (b := ⟨([x0, x1, x2, undef, undef, undef, (D_5 0), x25, x8, x9, x10, x11, x12, x13, (D_5 1), (D_5 2), x2, x17, x18, undef, x0, x21, x22, x23, x1, x25, x25, x27, x10, x2, x30, x31, (D 4), (D 5), (D 6), (D 7), (D 8), (D 9), (D 10), (D 11), (D 12), (D 13), (D 14), (D 15), (D 16), (D 17), (D 18), (D 19), (D 20), (D 21)] ++ [(D 22), (D 23), (D 24), (D 25), (D 26), x12, x2, x57, x58, (D_2 4), (D_2 5), (D_2 6), (D_2 7), (D_2 8), (D_2 9), (D_2 10), (D_2 11), (D_2 12), (D_2 13), (D_2 14), x11, x8, x72, x73, x73, (D_4 0), (D_4 1), (D_4 2), (D_4 3), (D_4 4), (D_4 5), (D_4 6), x82, x13, x9, x85, x86, (D_5 7), (D_5 8), (D_5 9), (D_5 10), (D_5 11), (D_5 12), (D_5 13), (D_5 14), (D_5 15), (D_5 16), (D_5 17), (D_5 18), (D_5 19)] ++ [(D_5 20), (D_5 21), (D_5 22), (D_5 23), undef, undef, undef, undef, undef, undef]).toArray, []⟩) (by kernel_rfl) ?_
                    refine wp_if rfl H (fun H => ?_) (fun H => ?_)
                    · refine wp_skip ?_
                      refine then_normal ?_
                      refine fr_eq (b := ⟨([x0, x1, x2, undef, undef, undef, (D_5 0), x25, x8, x9, x10, x11, x12, x13, (D_5 1), (D_5 2), x2, x17, x18, undef, x0, x21, x22, x23, x1, x25, x25, x27, x10, x2, x30, x31, (D 4), (D 5), (D 6), (D 7), (D 8), (D 9), (D 10), (D 11), (D 12), (D 13), (D 14), (D 15), (D 16), (D 17), (D 18), (D 19), (D 20), (D 21)] ++ [(D 22), (D 23), (D 24), (D 25), (D 26), x12, x2, x57, x58, (D_2 4), (D_2 5), (D_2 6), (D_2 7), (D_2 8), (D_2 9), (D_2 10), (D_2 11), (D_2 12), (D_2 13), (D_2 14), x11, x8, x72, x73, x73, (D_4 0), (D_4 1), (D_4 2), (D_4 3), (D_4 4), (D_4 5), (D_4 6), x82, x13, x9, x85, x86, (D_5 7), (D_5 8), (D_5 9), (D_5 10), (D_5 11), (D_5 12), (D_5 13), (D_5 14), (D_5 15), (D_5 16), (D_5 17), (D_5 18), (D_5 19)] ++ [(D_5 20), (D_5 21), (D_5 22), (D_5 23), undef, undef, undef, undef, undef, undef]).toArray, []⟩) (by kernel_rfl) ?_
                      refine wp_seq ?_
                      refine wp_block ?_
                      refine wp_seq ?_
                      refine lwp_list ?_
                      refine ls_move (x := x25) (by kernel_rfl) (by kernel_rfl) ?_
                      refine ls_d (d := some 91) (by kernel_rfl) (by kernel_rfl) HA_10 (d_call (by kernel_rfl) (by kernel_rfl) H) (fun x91 h_10 w_11 H HA_11 => ?_)
                      refine ls_move (x := x91) (by kernel_rfl) (by kernel_rfl) ?_
                      refine ls_p (d := some 92) (by kernel_rfl) (by kernel_rfl) (p_tup (by kernel_rfl) H) (fun x92 H => ?_)
                      refine ls_p (d := some 93) (by kernel_rfl) (by kernel_rfl) (p_tup (by kernel_rfl) H) (fun x93 H => ?_)
                      refine ls_assign (x := x92) (by kernel_rfl) (by kernel_rfl) ?_
                      refine ls_fr (b := ⟨([x0, x1, x2, undef, undef, undef, (D_5 0), x25, x8, x9, x10, x11, x12, x13, x92, (D_5 2), x2, x17, x18, undef, x0, x21, x22, x23, x1, x25, x25, x27, x10, x2, x30, x31, (D 4), (D 5), (D 6), (D 7), (D 8), (D 9), (D 10), (D 11), (D 12), (D 13), (D 14), (D 15), (D 16), (D 17), (D 18), (D 19), (D 20), (D 21)] ++ [(D 22), (D 23), (D 24), (D 25), (D 26), x12, x2, x57, x58, (D_2 4), (D_2 5), (D_2 6), (D_2 7), (D_2 8), (D_2 9), (D_2 10), (D_2 11), (D_2 12), (D_2 13), (D_2 14), x11, x8, x72, x73, x73, (D_4 0), (D_4 1), (D_4 2), (D_4 3), (D_4 4), (D_4 5), (D_4 6), x82, x13, x9, x85, x86, (D_5 7), (D_5 8), x91, x25, x91, x92, x93, (D_5 14), (D_5 15), (D_5 16), (D_5 17), (D_5 18), (D_5 19)] ++ [(D_5 20), (D_5 21), (D_5 22), (D_5 23), undef, undef, undef, undef, undef, undef]).toArray, []⟩) (by kernel_rfl) ?_
                      refine ls_assign (x := x93) (by kernel_rfl) (by kernel_rfl) ?_
                      refine ls_nil ?_
                      refine then_normal ?_
                      refine fr_eq (b := ⟨([x0, x1, x2, undef, undef, undef, (D_5 0), x25, x8, x9, x10, x11, x12, x13, x92, x93, x2, x17, x18, undef, x0, x21, x22, x23, x1, x25, x25, x27, x10, x2, x30, x31, (D 4), (D 5), (D 6), (D 7), (D 8), (D 9), (D 10), (D 11), (D 12), (D 13), (D 14), (D 15), (D 16), (D 17), (D 18), (D 19), (D 20), (D 21)] ++ [(D 22), (D 23), (D 24), (D 25), (D 26), x12, x2, x57, x58, (D_2 4), (D_2 5), (D_2 6), (D_2 7), (D_2 8), (D_2 9), (D_2 10), (D_2 11), (D_2 12), (D_2 13), (D_2 14), x11, x8, x72, x73, x73, (D_4 0), (D_4 1), (D_4 2), (D_4 3), (D_4 4), (D_4 5), (D_4 6), x82, x13, x9, x85, x86, (D_5 7), (D_5 8), x91, x25, x91, x92, x93, (D_5 14), (D_5 15), (D_5 16), (D_5 17), (D_5 18), (D_5 19)] ++ [(D_5 20), (D_5 21), (D_5 22), (D_5 23), undef, undef, undef, undef, undef, undef]).toArray, []⟩) (by kernel_rfl) ?_
                      refine wp_seq ?_
                      refine lwp_list ?_
                      refine ls_move (x := x93) (by kernel_rfl) (by kernel_rfl) ?_
                      refine ls_p (d := some 95) (by kernel_rfl) (by kernel_rfl) (p_not (by kernel_rfl) H) (fun x95 H => ?_)
                      refine ls_move (x := x95) (by kernel_rfl) (by kernel_rfl) ?_
                      refine ls_or [(), (), (), (), (), (), ()] (fun K a w => ∃ (D_6 : Nat → Value) (x103 : Value), a = ⟨([x0, x1, x2, undef, undef, undef, (D_5 0), x25, x8, x9, x10, x11, x12, x13, x92, x93, x2, x17, x18, undef, x0, x21, x22, x23, x1, x25, x25, x27, x10, x2, x30, x31, (D 4), (D 5), (D 6), (D 7), (D 8), (D 9), (D 10), (D 11), (D 12), (D 13), (D 14), (D 15), (D 16), (D 17), (D 18), (D 19), (D 20), (D 21)] ++ [(D 22), (D 23), (D 24), (D 25), (D 26), x12, x2, x57, x58, (D_2 4), (D_2 5), (D_2 6), (D_2 7), (D_2 8), (D_2 9), (D_2 10), (D_2 11), (D_2 12), (D_2 13), (D_2 14), x11, x8, x72, x73, x73, (D_4 0), (D_4 1), (D_4 2), (D_4 3), (D_4 4), (D_4 5), (D_4 6), x82, x13, x9, x85, x86, (D_5 7), (D_5 8), x91, x25, x91, x92, x93, x93, x95, x95, (D_6 0), (D_6 1), (D_6 2)] ++ [(D_6 3), (D_6 4), (D_6 5), x103, undef, undef, undef, undef, undef, undef]).toArray, []⟩ ∧ At w0 w h_10 ∧ K x103) H (fun hb_1 H => ?_) (fun hb_1 H => ?_) ?_
                      · refine ls_move (x := x92) (by rw [hb_1]; kernel_rfl) (by kernel_rfl) ?_
                        refine ls_move (x := x9) (by rw [hb_1]; kernel_rfl) (by kernel_rfl) ?_
                        refine ls_move (x := x13) (by rw [hb_1]; kernel_rfl) (by kernel_rfl) ?_
                        refine ls_fr (b := ⟨([x0, x1, x2, undef, undef, undef, (D_5 0), x25, x8, x9, x10, x11, x12, x13, x92, x93, x2, x17, x18, undef, x0, x21, x22, x23, x1, x25, x25, x27, x10, x2, x30, x31, (D 4), (D 5), (D 6), (D 7), (D 8), (D 9), (D 10), (D 11), (D 12), (D 13), (D 14), (D 15), (D 16), (D 17), (D 18), (D 19), (D 20), (D 21)] ++ [(D 22), (D 23), (D 24), (D 25), (D 26), x12, x2, x57, x58, (D_2 4), (D_2 5), (D_2 6), (D_2 7), (D_2 8), (D_2 9), (D_2 10), (D_2 11), (D_2 12), (D_2 13), (D_2 14), x11, x8, x72, x73, x73, (D_4 0), (D_4 1), (D_4 2), (D_4 3), (D_4 4), (D_4 5), (D_4 6), x82, x13, x9, x85, x86, (D_5 7), (D_5 8), x91, x25, x91, x92, x93, x93, x95, x95, x92, x9, x13] ++ [(D_5 20), (D_5 21), (D_5 22), (D_5 23), undef, undef, undef, undef, undef, undef]).toArray, []⟩) (by kernel_rfl) ?_
                        refine ls_p (d := some 100) (by kernel_rfl) (by rw [hb_1]; kernel_rfl) (p_ixs Try.underlying22 Try.sizeOf3 (by kernel_rfl) (by kernel_rfl) H) (fun x100 H => ?_)
                        refine ls_y (d := some 101) (by kernel_rfl) (by rw [hb_1]; kernel_rfl) HA_11 (y_ld Try.isAgg3 (by kernel_rfl) H) (fun x101 H => ?_)
                        refine ls_p (d := some 102) (by kernel_rfl) (by rw [hb_1]; kernel_rfl) (p_sNe (by kernel_rfl) (by kernel_rfl) H) (fun x102 H => ?_)
                        refine ls_pick_f (y := x102) (by kernel_rfl) (by rw [hb_1]; kernel_rfl) (by kernel_rfl) ?_
                        refine ls_nil ?_
                        refine then_normal ?_
                        exact ⟨(fun i => ([x92, x9, x13, x100, x101, x102]).getD i undef), x102, by kernel_rfl, HA_11, H⟩
                      · refine ls_skip (d := some 97) (by kernel_rfl) (by rw [hb_1]; kernel_rfl) ?_
                        refine ls_skip (d := some 98) (by kernel_rfl) (by rw [hb_1]; kernel_rfl) ?_
                        refine ls_skip (d := some 99) (by kernel_rfl) (by rw [hb_1]; kernel_rfl) ?_
                        refine ls_fr (b := ⟨([x0, x1, x2, undef, undef, undef, (D_5 0), x25, x8, x9, x10, x11, x12, x13, x92, x93, x2, x17, x18, undef, x0, x21, x22, x23, x1, x25, x25, x27, x10, x2, x30, x31, (D 4), (D 5), (D 6), (D 7), (D 8), (D 9), (D 10), (D 11), (D 12), (D 13), (D 14), (D 15), (D 16), (D 17), (D 18), (D 19), (D 20), (D 21)] ++ [(D 22), (D 23), (D 24), (D 25), (D 26), x12, x2, x57, x58, (D_2 4), (D_2 5), (D_2 6), (D_2 7), (D_2 8), (D_2 9), (D_2 10), (D_2 11), (D_2 12), (D_2 13), (D_2 14), x11, x8, x72, x73, x73, (D_4 0), (D_4 1), (D_4 2), (D_4 3), (D_4 4), (D_4 5), (D_4 6), x82, x13, x9, x85, x86, (D_5 7), (D_5 8), x91, x25, x91, x92, x93, x93, x95, x95, undef, undef, undef] ++ [(D_5 20), (D_5 21), (D_5 22), (D_5 23), undef, undef, undef, undef, undef, undef]).toArray, []⟩) (by kernel_rfl) ?_
                        refine ls_skip (d := some 100) (by kernel_rfl) (by rw [hb_1]; kernel_rfl) ?_
                        refine ls_skip (d := some 101) (by kernel_rfl) (by rw [hb_1]; kernel_rfl) ?_
                        refine ls_skip (d := some 102) (by kernel_rfl) (by rw [hb_1]; kernel_rfl) ?_
                        refine ls_pick_t (x := (.bool true)) (by kernel_rfl) (by rw [hb_1]; kernel_rfl) (by kernel_rfl) ?_
                        refine ls_nil ?_
                        refine then_normal ?_
                        exact ⟨(fun i => ([undef, undef, undef, undef, undef, undef]).getD i undef), (.bool true), by kernel_rfl, HA_11, H⟩
                      · rintro _ w_12 ⟨D_6, x103, rfl, HA_12, H⟩
                        refine ls_nil ?_
                        refine then_normal ?_
                        refine fr_eq (b := ⟨([x0, x1, x2, undef, undef, undef, (D_5 0), x25, x8, x9, x10, x11, x12, x13, x92, x93, x2, x17, x18, undef, x0, x21, x22, x23, x1, x25, x25, x27, x10, x2, x30, x31, (D 4), (D 5), (D 6), (D 7), (D 8), (D 9), (D 10), (D 11), (D 12), (D 13), (D 14), (D 15), (D 16), (D 17), (D 18), (D 19), (D 20), (D 21)] ++ [(D 22), (D 23), (D 24), (D 25), (D 26), x12, x2, x57, x58, (D_2 4), (D_2 5), (D_2 6), (D_2 7), (D_2 8), (D_2 9), (D_2 10), (D_2 11), (D_2 12), (D_2 13), (D_2 14), x11, x8, x72, x73, x73, (D_4 0), (D_4 1), (D_4 2), (D_4 3), (D_4 4), (D_4 5), (D_4 6), x82, x13, x9, x85, x86, (D_5 7), (D_5 8), x91, x25, x91, x92, x93, x93, x95, x95, (D_6 0), (D_6 1), (D_6 2)] ++ [(D_6 3), (D_6 4), (D_6 5), x103, undef, undef, undef, undef, undef, undef]).toArray, []⟩) (by kernel_rfl) ?_
                        refine wp_if rfl H (fun H => ?_) (fun H => ?_)
                        · refine wp_seq ?_
                          refine lwp_list ?_
                          refine ls_assign (x := (.bool false)) (by kernel_rfl) (by kernel_rfl) ?_
                          refine ls_nil ?_
                          refine then_normal ?_
                          refine fr_eq (b := ⟨([x0, x1, x2, undef, undef, undef, (.bool false), x25, x8, x9, x10, x11, x12, x13, x92, x93, x2, x17, x18, undef, x0, x21, x22, x23, x1, x25, x25, x27, x10, x2, x30, x31, (D 4), (D 5), (D 6), (D 7), (D 8), (D 9), (D 10), (D 11), (D 12), (D 13), (D 14), (D 15), (D 16), (D 17), (D 18), (D 19), (D 20), (D 21)] ++ [(D 22), (D 23), (D 24), (D 25), (D 26), x12, x2, x57, x58, (D_2 4), (D_2 5), (D_2 6), (D_2 7), (D_2 8), (D_2 9), (D_2 10), (D_2 11), (D_2 12), (D_2 13), (D_2 14), x11, x8, x72, x73, x73, (D_4 0), (D_4 1), (D_4 2), (D_4 3), (D_4 4), (D_4 5), (D_4 6), x82, x13, x9, x85, x86, (D_5 7), (D_5 8), x91, x25, x91, x92, x93, x93, x95, x95, (D_6 0), (D_6 1), (D_6 2)] ++ [(D_6 3), (D_6 4), (D_6 5), x103, undef, undef, undef, undef, undef, undef]).toArray, []⟩) (by kernel_rfl) ?_
                          refine wp_ret ?_
                          refine block_ret ?_
                          refine then_ret ?_
                          refine then_ret ?_
                          refine block_ret ?_
                          refine then_ret ?_
                          exact end1 (Try.results11) (by kernel_rfl) (by kernel_rfl) HA_12 H _ (.inr rfl)
                        · refine wp_skip ?_
                          refine block_normal ?_
                          refine then_normal ?_
                          refine fr_eq (b := ⟨([x0, x1, x2, undef, undef, undef, (D_5 0), x25, x8, x9, x10, x11, x12, x13, x92, x93, x2, x17, x18, undef, x0, x21, x22, x23, x1, x25, x25, x27, x10, x2, x30, x31, (D 4), (D 5), (D 6), (D 7), (D 8), (D 9), (D 10), (D 11), (D 12), (D 13), (D 14), (D 15), (D 16), (D 17), (D 18), (D 19), (D 20), (D 21)] ++ [(D 22), (D 23), (D 24), (D 25), (D 26), x12, x2, x57, x58, (D_2 4), (D_2 5), (D_2 6), (D_2 7), (D_2 8), (D_2 9), (D_2 10), (D_2 11), (D_2 12), (D_2 13), (D_2 14), x11, x8, x72, x73, x73, (D_4 0), (D_4 1), (D_4 2), (D_4 3), (D_4 4), (D_4 5), (D_4 6), x82, x13, x9, x85, x86, (D_5 7), (D_5 8), x91, x25, x91, x92, x93, x93, x95, x95, (D_6 0), (D_6 1), (D_6 2)] ++ [(D_6 3), (D_6 4), (D_6 5), x103, undef, undef, undef, undef, undef, undef]).toArray, []⟩) (by kernel_rfl) ?_
                          refine lwp_list ?_
                          refine ls_move (x := x13) (by kernel_rfl) (by kernel_rfl) ?_
                          refine ls_p (d := some 88) (by kernel_rfl) (by kernel_rfl) (p_add (by kernel_rfl) (by kernel_rfl) H) (fun x88 H => ?_)
                          refine ls_assign (x := x88) (by kernel_rfl) (by kernel_rfl) ?_
                          refine ls_nil ?_
                          exact ⟨⟨(fun i => ([(D_5 0), x92, x93, x13, x9, x85, x86, x13, x88, x91, x25, x91, x92, x93, x93, x95, x95, (D_6 0), (D_6 1), (D_6 2), (D_6 3), (D_6 4), (D_6 5), x103]).getD i undef), x88, h_10, by kernel_rfl, HA_12, H.1⟩, loop_lt HA_12.heap HA_10.heap (by kernel_rfl) (by kernel_rfl) H.2⟩
                    · refine wp_exit ?_
                      refine then_exit ?_
                      refine then_exit ?_
                      refine block_exit ?_
                      refine then_normal ?_
                      refine fr_eq (b := ⟨([x0, x1, x2, undef, undef, undef, (D_5 0), x25, x8, x9, x10, x11, x12, x13, (D_5 1), (D_5 2), x2, x17, x18, undef, x0, x21, x22, x23, x1, x25, x25, x27, x10, x2, x30, x31, (D 4), (D 5), (D 6), (D 7), (D 8), (D 9), (D 10), (D 11), (D 12), (D 13), (D 14), (D 15), (D 16), (D 17), (D 18), (D 19), (D 20), (D 21)] ++ [(D 22), (D 23), (D 24), (D 25), (D 26), x12, x2, x57, x58, (D_2 4), (D_2 5), (D_2 6), (D_2 7), (D_2 8), (D_2 9), (D_2 10), (D_2 11), (D_2 12), (D_2 13), (D_2 14), x11, x8, x72, x73, x73, (D_4 0), (D_4 1), (D_4 2), (D_4 3), (D_4 4), (D_4 5), (D_4 6), x82, x13, x9, x85, x86, (D_5 7), (D_5 8), (D_5 9), (D_5 10), (D_5 11), (D_5 12), (D_5 13), (D_5 14), (D_5 15), (D_5 16), (D_5 17), (D_5 18), (D_5 19)] ++ [(D_5 20), (D_5 21), (D_5 22), (D_5 23), undef, undef, undef, undef, undef, undef]).toArray, []⟩) (by kernel_rfl) ?_
                      refine wp_seq ?_
                      refine lwp_list ?_
                      refine ls_move (x := x25) (by kernel_rfl) (by kernel_rfl) ?_
                      refine ls_d (d := some 105) (by kernel_rfl) (by kernel_rfl) HA_10 (d_call (by kernel_rfl) (by kernel_rfl) H) (fun x105 h_11 w_13 H HA_13 => ?_)
                      refine ls_p (d := some 106) (by kernel_rfl) (by kernel_rfl) (p_sEq (by kernel_rfl) (by kernel_rfl) H) (fun x106 H => ?_)
                      refine ls_move (x := x106) (by kernel_rfl) (by kernel_rfl) ?_
                      refine ls_andh [(), ()] (fun K a w => ∃ (D_7 : Nat → Value) (x109 : Value) (h_12 : Heap), a = ⟨([x0, x1, x2, undef, undef, undef, (D_5 0), x25, x8, x9, x10, x11, x12, x13, (D_5 1), (D_5 2), x2, x17, x18, undef, x0, x21, x22, x23, x1, x25, x25, x27, x10, x2, x30, x31, (D 4), (D 5), (D 6), (D 7), (D 8), (D 9), (D 10), (D 11), (D 12), (D 13), (D 14), (D 15), (D 16), (D 17), (D 18), (D 19), (D 20), (D 21)] ++ [(D 22), (D 23), (D 24), (D 25), (D 26), x12, x2, x57, x58, (D_2 4), (D_2 5), (D_2 6), (D_2 7), (D_2 8), (D_2 9), (D_2 10), (D_2 11), (D_2 12), (D_2 13), (D_2 14), x11, x8, x72, x73, x73, (D_4 0), (D_4 1), (D_4 2), (D_4 3), (D_4 4), (D_4 5), (D_4 6), x82, x13, x9, x85, x86, (D_5 7), (D_5 8), (D_5 9), (D_5 10), (D_5 11), (D_5 12), (D_5 13), (D_5 14), (D_5 15), (D_5 16), (D_5 17), (D_5 18), (D_5 19)] ++ [(D_5 20), (D_5 21), (D_5 22), (D_5 23), x25, x105, x106, x106, (D_7 0), x109]).toArray, []⟩ ∧ At w0 w h_12 ∧ K x109 h_12) H (fun hb_2 H => ?_) (fun hb_2 H => ?_) ?_
                      · refine ls_d (d := some 108) (by kernel_rfl) (by rw [hb_2]; kernel_rfl) HA_13 (d_call (by kernel_rfl) (by kernel_rfl) H) (fun x108 h_13 w_15 H HA_15 => ?_)
                        refine ls_pick_t (x := x108) (by kernel_rfl) (by rw [hb_2]; kernel_rfl) (by kernel_rfl) ?_
                        refine ls_nil ?_
                        refine then_normal ?_
                        exact ⟨(fun i => ([x108]).getD i undef), x108, h_13, by kernel_rfl, HA_15, H⟩
                      · refine ls_skip (d := some 108) (by kernel_rfl) (by rw [hb_2]; kernel_rfl) ?_
                        refine ls_pick_f (y := (.bool false)) (by kernel_rfl) (by rw [hb_2]; kernel_rfl) (by kernel_rfl) ?_
                        refine ls_nil ?_
                        refine then_normal ?_
                        exact ⟨(fun i => ([undef]).getD i undef), (.bool false), h_11, by kernel_rfl, HA_13, H⟩
                      · rintro _ w_14 ⟨D_7, x109, h_12, rfl, HA_14, H⟩
                        refine ls_assign (x := x109) (by kernel_rfl) (by kernel_rfl) ?_
                        refine ls_nil ?_
                        refine then_normal ?_
                        refine fr_eq (b := ⟨([x0, x1, x2, undef, undef, undef, x109, x25, x8, x9, x10, x11, x12, x13, (D_5 1), (D_5 2), x2, x17, x18, undef, x0, x21, x22, x23, x1, x25, x25, x27, x10, x2, x30, x31, (D 4), (D 5), (D 6), (D 7), (D 8), (D 9), (D 10), (D 11), (D 12), (D 13), (D 14), (D 15), (D 16), (D 17), (D 18), (D 19), (D 20), (D 21)] ++ [(D 22), (D 23), (D 24), (D 25), (D 26), x12, x2, x57, x58, (D_2 4), (D_2 5), (D_2 6), (D_2 7), (D_2 8), (D_2 9), (D_2 10), (D_2 11), (D_2 12), (D_2 13), (D_2 14), x11, x8, x72, x73, x73, (D_4 0), (D_4 1), (D_4 2), (D_4 3), (D_4 4), (D_4 5), (D_4 6), x82, x13, x9, x85, x86, (D_5 7), (D_5 8), (D_5 9), (D_5 10), (D_5 11), (D_5 12), (D_5 13), (D_5 14), (D_5 15), (D_5 16), (D_5 17), (D_5 18), (D_5 19)] ++ [(D_5 20), (D_5 21), (D_5 22), (D_5 23), x25, x105, x106, x106, (D_7 0), x109]).toArray, []⟩) (by kernel_rfl) ?_
                        refine wp_ret ?_
                        exact end1 (Try.results11) (by kernel_rfl) (by kernel_rfl) HA_14 H _ (.inr rfl)

end Go.Proofs.Ytecoejjpdogklaa
