/- The shallow reading of one function, and that the function does it. Written by a program. -/
import Derived.Test.YtlcklnbgknhhkaaFnC
set_option linter.unusedVariables false
namespace Go.Proofs.Ytlcklnbgknhhkaa
open Go Go.HW

def betonylaw22_PtyLines_l2 (next : Value → Value → Value → Heap → Prop) (x0 x21 x4 x5 x6 : Value) (next1 : Value → Value → Heap → Prop) (x7 x8 : Value) (h_5 : Heap) : Prop :=
  sIxS x0 x6 1 fun x40 =>
  sLd h_5 x40 fun x41 =>
  sLen x41 fun x42 =>
  sLt x8 x42 fun x43 =>
  sIf x43 (sIxS x0 x6 1 fun x49 =>
  sLd h_5 x49 fun x50 =>
  sIxS x50 x8 1 fun x52 =>
  sLd h_5 x52 fun x53 =>
  sRem .u8 x53 (.int .u8 26) fun x54 =>
  sAdd .u8 (.int .u8 97) x54 fun x55 =>
  sSlit h_5 #[.int .u8 0] [(0, 1, x55)] 5 1 fun x56 h_6 => 
  sApp h_6 x7 x56 #[.int .u8 0] 5 1 fun x57 h_7 => 
  sAdd .i64 x8 (.int .i64 1) fun x45 =>
  next1 x57 x45 h_7) (sSlit h_5 #[] [] 5 0 fun x59 h_8 => 
  sApp h_8 x59 x7 #[.int .u8 0] 5 1 fun x61 h_9 => 
  sSlit h_9 #[.int .u8 0] [(0, 1, (.int .u8 10))] 5 1 fun x62 h_10 => 
  sApp h_10 x61 x62 #[.int .u8 0] 5 1 fun x63 h_11 => 
  sSlit h_11 #[.slice none 0 0] [(0, 1, x63)] 30 1 fun x64 h_12 => 
  sApp h_12 x4 x64 #[.slice none 0 0] 30 24 fun x65 h_13 => 
  sApp h_13 x5 x7 #[.int .u8 0] 5 1 fun x68 h_14 => 
  sSlit h_14 #[.int .u8 0, .int .u8 0] [(0, 1, (.int .u8 13)), (1, 1, (.int .u8 10))] 5 2 fun x69 h_15 => 
  sApp h_15 x68 x69 #[.int .u8 0] 5 1 fun x70 h_16 => 
  sSlit h_16 #[] [] 5 0 fun x72 h_17 => 
  sApp h_17 x72 x7 #[.int .u8 0] 5 1 fun x74 h_18 => 
  sSlit h_18 #[.int .u8 0] [(0, 1, (.int .u8 13))] 5 1 fun x75 h_19 => 
  sApp h_19 x74 x75 #[.int .u8 0] 5 1 fun x76 h_20 => 
  pty_Pair_MasterWrite_c x21 x76 h_20 fun x77 h_21 => 
  sAdd .i64 x6 (.int .i64 1) fun x29 =>
  next x65 x70 x29 h_21)
def betonylaw22_PtyLines_l3 (R : Value → Heap → Prop) (x21 x4 x5 : Value) (next : Value → Heap → Prop) (x9 : Value) (h_22 : Heap) : Prop :=
  sLen x4 fun x80 =>
  sLt x9 x80 fun x81 =>
  sIf x81 (pty_Pair_SlaveRead_c x21 (.int .i64 100) h_22 fun x86 h_23 => 
  sTup x86 0 fun x87 =>
  sTup x86 1 fun x88 =>
  sNe x88 (.int .i64 0) fun x90 =>
  sOrH x90 h_23 (fun k =>
  sIxS x4 x9 1 fun x95 =>
  sLd h_23 x95 fun x96 =>
  betonyref01_Same_c x87 x96 h_23 fun x97 h_25 => 
  sNot x97 fun x98 =>
  k x98 h_25) fun x99 h_24 =>
  sIf x99 (R (.bool false) h_24) (sAdd .i64 x9 (.int .i64 1) fun x83 =>
  next x83 h_24)) (sLen x5 fun x101 =>
  sEq x101 (.int .i64 0) fun x102 =>
  sIf x102 (betonylaw22_awake_c  h_22 fun x103 h_26 => 
  R x103 h_26) (pty_Pair_MasterRead_c x21 (.int .i64 4096) h_22 fun x106 h_27 => 
  sTup x106 0 fun x107 =>
  sTup x106 1 fun x108 =>
  pty_Pair_SlaveRead_c x21 (.int .i64 1) h_27 fun x111 h_28 => 
  sTup x111 0 fun x112 =>
  sTup x111 1 fun x113 =>
  sEq x108 (.int .i64 0) fun x115 =>
  sAndH x115 h_28 (fun k_3 =>
  betonyref01_Same_c x107 x5 h_28 fun x119 h_32 => 
  k_3 x119 h_32) fun x120 h_29 =>
  sAnd x120 (fun k_2 =>
  sEq x113 (.int .i64 12) fun x123 =>
  k_2 x123) fun x124 =>
  sAndH x124 h_29 (fun k_1 =>
  betonylaw22_awake_c  h_29 fun x126 h_31 => 
  k_1 x126 h_31) fun x127 h_30 =>
  R x127 h_30))
def betonylaw22_PtyLines_l1 (R : Value → Heap → Prop) (x0 x21 : Value) (next : Value → Value → Value → Heap → Prop) (x4 x5 x6 : Value) (h_3 : Heap) : Prop :=
  sLen x0 fun x26 =>
  sLt x6 x26 fun x27 =>
  sIf x27 (sIxS x0 x6 1 fun x32 =>
  sLd h_3 x32 fun x33 =>
  sLen x33 fun x34 =>
  sGt x34 (.int .i64 30) fun x35 =>
  sIf x35 (betonylaw22_awake_c  h_3 fun x36 h_4 => 
  R x36 h_4) (sLoop (S := Value × Value) (fun nxt s h => betonylaw22_PtyLines_l2 next x0 x21 x4 x5 x6 (fun x7' x8' h => nxt (x7', x8') h) s.1 s.2 h) ((.slice none 0 0), (.int .i64 0)) h_3)) (sLoop (S := Value) (fun nxt s h => betonylaw22_PtyLines_l3 R x21 x4 x5 (fun x9' h => nxt x9' h) s h) (.int .i64 0) h_3)
def betonylaw22_PtyLines_S (x0 : Value) (h : Heap) (R : Value → Heap → Prop) : Prop :=
  sLen x0 fun x17 =>
  sGt x17 (.int .i64 8) fun x18 =>
  sIf x18 (betonylaw22_awake_c  h fun x19 h => 
  R x19 h) (betonyref17_Plain_c  h fun x20 h_1 => 
  pty_New_c x20 h_1 fun x21 h_2 => 
  sEqlNil x21 fun x23 =>
  sIf x23 (R (.bool false) h_2) (sLoop (S := Value × Value × Value) (fun nxt s h => betonylaw22_PtyLines_l1 R x0 x21 (fun x4' x5' x6' h => nxt (x4', x5', x6') h) s.1 s.2.1 s.2.2 h) ((.slice none 0 0), (.slice none 0 0), (.int .i64 0)) h_2))
set_option maxHeartbeats 4000000 in
set_option maxRecDepth 100000 in
theorem betonylaw22_PtyLines_runs {x0 : Value} {h : Heap} {R : Value → Heap → Prop} (H : betonylaw22_PtyLines_S x0 h R) : betonylaw22_PtyLines_c x0 h R := by
  unfold betonylaw22_PtyLines_S at H
  refine runs_of (b := ⟨([x0, undef, undef, undef, undef, undef, undef, undef, undef, undef, undef, undef, undef, undef, undef, undef, undef, undef, undef, undef, undef, undef, undef, undef, undef, undef, undef, undef, undef, undef, undef, undef, undef, undef, undef, undef, undef, undef, undef, undef, undef, undef, undef, undef, undef, undef, undef, undef, undef, undef] ++ [undef, undef, undef, undef, undef, undef, undef, undef, undef, undef, undef, undef, undef, undef, undef, undef, undef, undef, undef, undef, undef, undef, undef, undef, undef, undef, undef, undef, undef, undef, undef, undef, undef, undef, undef, undef, undef, undef, undef, undef, undef, undef, undef, undef, undef, undef, undef, undef, undef, undef] ++ [undef, undef, undef, undef, undef, undef, undef, undef, undef, undef, undef, undef, undef, undef, undef, undef, undef, undef, undef, undef, undef, undef, undef, undef, undef, undef, undef, undef]).toArray, []⟩) Try.call9 Try.func9 rfl (by kernel_rfl) (fun w0 HA => ?_)
  refine wp_seq ?_
  refine lwp_list ?_
  refine ls_assign (x := (.bool false)) (by kernel_rfl) (by kernel_rfl) ?_
  refine ls_nil ?_
  refine then_normal ?_
  refine fr_eq (b := ⟨([x0, undef, (.bool false), undef, undef, undef, undef, undef, undef, undef, undef, undef, undef, undef, undef, undef, undef, undef, undef, undef, undef, undef, undef, undef, undef, undef, undef, undef, undef, undef, undef, undef, undef, undef, undef, undef, undef, undef, undef, undef, undef, undef, undef, undef, undef, undef, undef, undef, undef, undef] ++ [undef, undef, undef, undef, undef, undef, undef, undef, undef, undef, undef, undef, undef, undef, undef, undef, undef, undef, undef, undef, undef, undef, undef, undef, undef, undef, undef, undef, undef, undef, undef, undef, undef, undef, undef, undef, undef, undef, undef, undef, undef, undef, undef, undef, undef, undef, undef, undef, undef, undef] ++ [undef, undef, undef, undef, undef, undef, undef, undef, undef, undef, undef, undef, undef, undef, undef, undef, undef, undef, undef, undef, undef, undef, undef, undef, undef, undef, undef, undef]).toArray, []⟩) (by kernel_rfl) ?_
  refine wp_seq ?_
  refine wp_seq ?_
  refine lwp_list ?_
  refine ls_move (x := x0) (by kernel_rfl) (by kernel_rfl) ?_
  refine ls_p (d := some 17) (by kernel_rfl) (by kernel_rfl) (p_len Try.underlying22 (by kernel_rfl) H) (fun x17 H => ?_)
  refine ls_p (d := some 18) (by kernel_rfl) (by kernel_rfl) (p_sGt (by kernel_rfl) (by kernel_rfl) H) (fun x18 H => ?_)
  refine ls_nil ?_
  refine then_normal ?_
  refine fr_eq (b := ⟨([x0, undef, (.bool false), undef, undef, undef, undef, undef, undef, undef, undef, undef, undef, undef, undef, undef, x0, x17, x18, undef, undef, undef, undef, undef, undef, undef, undef, undef, undef, undef, undef, undef, undef, undef, undef, undef, undef, undef, undef, undef, undef, undef, undef, undef, undef, undef, undef, undef, undef, undef] ++ [undef, undef, undef, undef, undef, undef, undef, undef, undef, undef, undef, undef, undef, undef, undef, undef, undef, undef, undef, undef, undef, undef, undef, undef, undef, undef, undef, undef, undef, undef, undef, undef, undef, undef, undef, undef, undef, undef, undef, undef, undef, undef, undef, undef, undef, undef, undef, undef, undef, undef] ++ [undef, undef, undef, undef, undef, undef, undef, undef, undef, undef, undef, undef, undef, undef, undef, undef, undef, undef, undef, undef, undef, undef, undef, undef, undef, undef, undef, undef]).toArray, []⟩) (by kernel_rfl) ?_
  refine wp_if rfl H (fun H => ?_) (fun H => ?_)
  · refine wp_seq ?_
    refine lwp_list ?_
    refine ls_d (d := some 19) (by kernel_rfl) (by kernel_rfl) HA (d_call (by kernel_rfl) (by kernel_rfl) H) (fun x19 h w H HA => ?_)
    refine ls_assign (x := x19) (by kernel_rfl) (by kernel_rfl) ?_
    refine ls_nil ?_
    refine then_normal ?_
    refine fr_eq (b := ⟨([x0, undef, x19, undef, undef, undef, undef, undef, undef, undef, undef, undef, undef, undef, undef, undef, x0, x17, x18, x19, undef, undef, undef, undef, undef, undef, undef, undef, undef, undef, undef, undef, undef, undef, undef, undef, undef, undef, undef, undef, undef, undef, undef, undef, undef, undef, undef, undef, undef, undef] ++ [undef, undef, undef, undef, undef, undef, undef, undef, undef, undef, undef, undef, undef, undef, undef, undef, undef, undef, undef, undef, undef, undef, undef, undef, undef, undef, undef, undef, undef, undef, undef, undef, undef, undef, undef, undef, undef, undef, undef, undef, undef, undef, undef, undef, undef, undef, undef, undef, undef, undef] ++ [undef, undef, undef, undef, undef, undef, undef, undef, undef, undef, undef, undef, undef, undef, undef, undef, undef, undef, undef, undef, undef, undef, undef, undef, undef, undef, undef, undef]).toArray, []⟩) (by kernel_rfl) ?_
    refine wp_ret ?_
    refine then_ret ?_
    exact end1 (Try.results9) (by kernel_rfl) (by kernel_rfl) HA H _ (.inr rfl)
  · refine wp_skip ?_
    refine then_normal ?_
    refine fr_eq (b := ⟨([x0, undef, (.bool false), undef, undef, undef, undef, undef, undef, undef, undef, undef, undef, undef, undef, undef, x0, x17, x18, undef, undef, undef, undef, undef, undef, undef, undef, undef, undef, undef, undef, undef, undef, undef, undef, undef, undef, undef, undef, undef, undef, undef, undef, undef, undef, undef, undef, undef, undef, undef] ++ [undef, undef, undef, undef, undef, undef, undef, undef, undef, undef, undef, undef, undef, undef, undef, undef, undef, undef, undef, undef, undef, undef, undef, undef, undef, undef, undef, undef, undef, undef, undef, undef, undef, undef, undef, undef, undef, undef, undef, undef, undef, undef, undef, undef, undef, undef, undef, undef, undef, undef] ++ [undef, undef, undef, undef, undef, undef, undef, undef, undef, undef, undef, undef, undef, undef, undef, undef, undef, undef, undef, undef, undef, undef, undef, undef, undef, undef, undef, undef]).toArray, []⟩) (by kernel_rfl) ?_
    refine wp_seq ?_
    refine lwp_list ?_
    refine ls_d (d := some 20) (by kernel_rfl) (by kernel_rfl) HA (d_call (by kernel_rfl) (by kernel_rfl) H) (fun x20 h_1 w_1 H HA_1 => ?_)
    refine ls_d (d := some 21) (by kernel_rfl) (by kernel_rfl) HA_1 (d_call (by kernel_rfl) (by kernel_rfl) H) (fun x21 h_2 w_2 H HA_2 => ?_)
    refine ls_assign (x := x21) (by kernel_rfl) (by kernel_rfl) ?_
    refine ls_nil ?_
    refine then_normal ?_
    refine fr_eq (b := ⟨([x0, undef, (.bool false), x21, undef, undef, undef, undef, undef, undef, undef, undef, undef, undef, undef, undef, x0, x17, x18, undef, x20, x21, undef, undef, undef, undef, undef, undef, undef, undef, undef, undef, undef, undef, undef, undef, undef, undef, undef, undef, undef, undef, undef, undef, undef, undef, undef, undef, undef, undef] ++ [undef, undef, undef, undef, undef, undef, undef, undef, undef, undef, undef, undef, undef, undef, undef, undef, undef, undef, undef, undef, undef, undef, undef, undef, undef, undef, undef, undef, undef, undef, undef, undef, undef, undef, undef, undef, undef, undef, undef, undef, undef, undef, undef, undef, undef, undef, undef, undef, undef, undef] ++ [undef, undef, undef, undef, undef, undef, undef, undef, undef, undef, undef, undef, undef, undef, undef, undef, undef, undef, undef, undef, undef, undef, undef, undef, undef, undef, undef, undef]).toArray, []⟩) (by kernel_rfl) ?_
    refine wp_seq ?_
    refine wp_seq ?_
    refine lwp_list ?_
    refine ls_move (x := x21) (by kernel_rfl) (by kernel_rfl) ?_
    refine ls_p (d := some 23) (by kernel_rfl) (by kernel_rfl) (p_eqlNil Try.underlying54 (by kernel_rfl) (by kernel_rfl) H) (fun x23 H => ?_)
    refine ls_nil ?_
    refine then_normal ?_
    refine fr_eq (b := ⟨([x0, undef, (.bool false), x21, undef, undef, undef, undef, undef, undef, undef, undef, undef, undef, undef, undef, x0, x17, x18, undef, x20, x21, x21, x23, undef, undef, undef, undef, undef, undef, undef, undef, undef, undef, undef, undef, undef, undef, undef, undef, undef, undef, undef, undef, undef, undef, undef, undef, undef, undef] ++ [undef, undef, undef, undef, undef, undef, undef, undef, undef, undef, undef, undef, undef, undef, undef, undef, undef, undef, undef, undef, undef, undef, undef, undef, undef, undef, undef, undef, undef, undef, undef, undef, undef, undef, undef, undef, undef, undef, undef, undef, undef, undef, undef, undef, undef, undef, undef, undef, undef, undef] ++ [undef, undef, undef, undef, undef, undef, undef, undef, undef, undef, undef, undef, undef, undef, undef, undef, undef, undef, undef, undef, undef, undef, undef, undef, undef, undef, undef, undef]).toArray, []⟩) (by kernel_rfl) ?_
    refine wp_if rfl H (fun H => ?_) (fun H => ?_)
    · refine wp_seq ?_
      refine lwp_list ?_
      refine ls_assign (x := (.bool false)) (by kernel_rfl) (by kernel_rfl) ?_
      refine ls_nil ?_
      refine then_normal ?_
      refine fr_eq (b := ⟨([x0, undef, (.bool false), x21, undef, undef, undef, undef, undef, undef, undef, undef, undef, undef, undef, undef, x0, x17, x18, undef, x20, x21, x21, x23, undef, undef, undef, undef, undef, undef, undef, undef, undef, undef, undef, undef, undef, undef, undef, undef, undef, undef, undef, undef, undef, undef, undef, undef, undef, undef] ++ [undef, undef, undef, undef, undef, undef, undef, undef, undef, undef, undef, undef, undef, undef, undef, undef, undef, undef, undef, undef, undef, undef, undef, undef, undef, undef, undef, undef, undef, undef, undef, undef, undef, undef, undef, undef, undef, undef, undef, undef, undef, undef, undef, undef, undef, undef, undef, undef, undef, undef] ++ [undef, undef, undef, undef, undef, undef, undef, undef, undef, undef, undef, undef, undef, undef, undef, undef, undef, undef, undef, undef, undef, undef, undef, undef, undef, undef, undef, undef]).toArray, []⟩) (by kernel_rfl) ?_
      refine wp_ret ?_
      refine then_ret ?_
      exact end1 (Try.results9) (by kernel_rfl) (by kernel_rfl) HA_2 H _ (.inr rfl)
    · refine wp_skip ?_
      refine then_normal ?_
      refine fr_eq (b := ⟨([x0, undef, (.bool false), x21, undef, undef, undef, undef, undef, undef, undef, undef, undef, undef, undef, undef, x0, x17, x18, undef, x20, x21, x21, x23, undef, undef, undef, undef, undef, undef, undef, undef, undef, undef, undef, undef, undef, undef, undef, undef, undef, undef, undef, undef, undef, undef, undef, undef, undef, undef] ++ [undef, undef, undef, undef, undef, undef, undef, undef, undef, undef, undef, undef, undef, undef, undef, undef, undef, undef, undef, undef, undef, undef, undef, undef, undef, undef, undef, undef, undef, undef, undef, undef, undef, undef, undef, undef, undef, undef, undef, undef, undef, undef, undef, undef, undef, undef, undef, undef, undef, undef] ++ [undef, undef, undef, undef, undef, undef, undef, undef, undef, undef, undef, undef, undef, undef, undef, undef, undef, undef, undef, undef, undef, undef, undef, undef, undef, undef, undef, undef]).toArray, []⟩) (by kernel_rfl) ?_
      refine wp_seq ?_
      refine lwp_list ?_
      refine ls_assign (x := (.slice none 0 0)) (by kernel_rfl) (by kernel_rfl) ?_
      refine ls_nil ?_
      refine then_normal ?_
      refine fr_eq (b := ⟨([x0, undef, (.bool false), x21, (.slice none 0 0), undef, undef, undef, undef, undef, undef, undef, undef, undef, undef, undef, x0, x17, x18, undef, x20, x21, x21, x23, undef, undef, undef, undef, undef, undef, undef, undef, undef, undef, undef, undef, undef, undef, undef, undef, undef, undef, undef, undef, undef, undef, undef, undef, undef, undef] ++ [undef, undef, undef, undef, undef, undef, undef, undef, undef, undef, undef, undef, undef, undef, undef, undef, undef, undef, undef, undef, undef, undef, undef, undef, undef, undef, undef, undef, undef, undef, undef, undef, undef, undef, undef, undef, undef, undef, undef, undef, undef, undef, undef, undef, undef, undef, undef, undef, undef, undef] ++ [undef, undef, undef, undef, undef, undef, undef, undef, undef, undef, undef, undef, undef, undef, undef, undef, undef, undef, undef, undef, undef, undef, undef, undef, undef, undef, undef, undef]).toArray, []⟩) (by kernel_rfl) ?_
      refine wp_seq ?_
      refine lwp_list ?_
      refine ls_assign (x := (.slice none 0 0)) (by kernel_rfl) (by kernel_rfl) ?_
      refine ls_nil ?_
      refine then_normal ?_
      refine fr_eq (b := ⟨([x0, undef, (.bool false), x21, (.slice none 0 0), (.slice none 0 0), undef, undef, undef, undef, undef, undef, undef, undef, undef, undef, x0, x17, x18, undef, x20, x21, x21, x23, undef, undef, undef, undef, undef, undef, undef, undef, undef, undef, undef, undef, undef, undef, undef, undef, undef, undef, undef, undef, undef, undef, undef, undef, undef, undef] ++ [undef, undef, undef, undef, undef, undef, undef, undef, undef, undef, undef, undef, undef, undef, undef, undef, undef, undef, undef, undef, undef, undef, undef, undef, undef, undef, undef, undef, undef, undef, undef, undef, undef, undef, undef, undef, undef, undef, undef, undef, undef, undef, undef, undef, undef, undef, undef, undef, undef, undef] ++ [undef, undef, undef, undef, undef, undef, undef, undef, undef, undef, undef, undef, undef, undef, undef, undef, undef, undef, undef, undef, undef, undef, undef, undef, undef, undef, undef, undef]).toArray, []⟩) (by kernel_rfl) ?_
      refine wp_seq ?_
      refine wp_seq ?_
      refine lwp_list ?_
      refine ls_assign (x := (.int .i64 0)) (by kernel_rfl) (by kernel_rfl) ?_
      refine ls_nil ?_
      refine then_normal ?_
      refine fr_eq (b := ⟨([x0, undef, (.bool false), x21, (.slice none 0 0), (.slice none 0 0), (.int .i64 0), undef, undef, undef, undef, undef, undef, undef, undef, undef, x0, x17, x18, undef, x20, x21, x21, x23, undef, undef, undef, undef, undef, undef, undef, undef, undef, undef, undef, undef, undef, undef, undef, undef, undef, undef, undef, undef, undef, undef, undef, undef, undef, undef] ++ [undef, undef, undef, undef, undef, undef, undef, undef, undef, undef, undef, undef, undef, undef, undef, undef, undef, undef, undef, undef, undef, undef, undef, undef, undef, undef, undef, undef, undef, undef, undef, undef, undef, undef, undef, undef, undef, undef, undef, undef, undef, undef, undef, undef, undef, undef, undef, undef, undef, undef] ++ [undef, undef, undef, undef, undef, undef, undef, undef, undef, undef, undef, undef, undef, undef, undef, undef, undef, undef, undef, undef, undef, undef, undef, undef, undef, undef, undef, undef]).toArray, []⟩) (by kernel_rfl) ?_
      refine wp_block ?_
      obtain ⟨I, m, H0, HB⟩ := H
      refine wp_loop (fun a w => ∃ (D : Nat → Value) (x4 x5 x6 : Value) (h_3 : Heap), a = ⟨([x0, undef, (D 0), x21, x4, x5, x6, (D 1), (D 2), undef, undef, undef, undef, undef, undef, undef, x0, x17, x18, undef, x20, x21, x21, x23, (D 3), (D 4), (D 5), (D 6), (D 7), (D 8), (D 9), (D 10), (D 11), (D 12), (D 13), (D 14), (D 15), (D 16), (D 17), (D 18), (D 19), (D 20), (D 21), (D 22), (D 23), (D 24), (D 25), (D 26), (D 27), (D 28)] ++ [(D 29), (D 30), (D 31), (D 32), (D 33), (D 34), (D 35), (D 36), (D 37), (D 38), (D 39), (D 40), (D 41), (D 42), (D 43), (D 44), (D 45), (D 46), (D 47), (D 48), (D 49), (D 50), (D 51), (D 52), (D 53), (D 54), (D 55), (D 56), undef, undef, undef, undef, undef, undef, undef, undef, undef, undef, undef, undef, undef, undef, undef, undef, undef, undef, undef, undef, undef, undef] ++ [undef, undef, undef, undef, undef, undef, undef, undef, undef, undef, undef, undef, undef, undef, undef, undef, undef, undef, undef, undef, undef, undef, undef, undef, undef, undef, undef, undef]).toArray, []⟩ ∧ At w0 w h_3 ∧ I (x4, x5, x6) h_3) (fun a w => m ((a.tmps.getD 4 undef), (a.tmps.getD 5 undef), (a.tmps.getD 6 undef)) w.heap) ?_ ?_
      · exact ⟨(fun i => ([(.bool false), undef, undef, undef, undef, undef, undef, undef, undef, undef, undef, undef, undef, undef, undef, undef, undef, undef, undef, undef, undef, undef, undef, undef, undef, undef, undef, undef, undef, undef, undef, undef, undef, undef, undef, undef, undef, undef, undef, undef, undef, undef, undef, undef, undef, undef, undef, undef, undef, undef] ++ [undef, undef, undef, undef, undef, undef, undef]).getD i undef), (.slice none 0 0), (.slice none 0 0), (.int .i64 0), h_2, by kernel_rfl, HA_2, H0⟩
      · rintro _ w_3 ⟨D, x4, x5, x6, h_3, rfl, HA_3, HI⟩
        have H : betonylaw22_PtyLines_l1 R x0 x21 (fun x4' x5' x6' h' => I (x4', x5', x6') h' ∧ m (x4', x5', x6') h' < m (x4, x5, x6) h_3) x4 x5 x6 h_3 := HB (x4, x5, x6) h_3 HI
        clear HB H0 HI
        unfold betonylaw22_PtyLines_l1 at H
        refine wp_seq ?_
        refine wp_seq ?_
        refine lwp_list ?_
        refine ls_move (x := x6) (by kernel_rfl) (by kernel_rfl) ?_
        refine ls_move (x := x0) (by kernel_rfl) (by kernel_rfl) ?_
        refine ls_p (d := some 26) (by kernel_rfl) (by kernel_rfl) (p_len Try.underlying22 (by kernel_rfl) H) (fun x26 H => ?_)
        refine ls_p (d := some 27) (by kernel_rfl) (by kernel_rfl) (p_sLt (by kernel_rfl) (by kernel_rfl) H) (fun x27 H => ?_)
        refine ls_nil ?_
        refine then_normal ?_
        refine fr_eq (b := ⟨([x0, undef, (D 0), x21, x4, x5, x6, (D 1), (D 2), undef, undef, undef, undef, undef, undef, undef, x0, x17, x18, undef, x20, x21, x21, x23, x6, x0, x26, x27, (D 7), (D 8), (D 9), (D 10), (D 11), (D 12), (D 13), (D 14), (D 15), (D 16), (D 17), (D 18), (D 19), (D 20), (D 21), (D 22), (D 23), (D 24), (D 25), (D 26), (D 27), (D 28)] ++ [(D 29), (D 30), (D 31), (D 32), (D 33), (D 34), (D 35), (D 36), (D 37), (D 38), (D 39), (D 40), (D 41), (D 42), (D 43), (D 44), (D 45), (D 46), (D 47), (D 48), (D 49), (D 50), (D 51), (D 52), (D 53), (D 54), (D 55), (D 56), undef, undef, undef, undef, undef, undef, undef, undef, undef, undef, undef, undef, undef, undef, undef, undef, undef, undef, undef, undef, undef, undef] ++ [undef, undef, undef, undef, undef, undef, undef, undef, undef, undef, undef, undef, undef, undef, undef, undef, undef, undef, undef, undef, undef, undef, undef, undef, undef, undef, undef, undef]).toArray, []⟩) (by kernel_rfl) ?_
        refine wp_if rfl H (fun H => ?_) (fun H => ?_)
        · refine wp_skip ?_
          refine then_normal ?_
          refine fr_eq (b := ⟨([x0, undef, (D 0), x21, x4, x5, x6, (D 1), (D 2), undef, undef, undef, undef, undef, undef, undef, x0, x17, x18, undef, x20, x21, x21, x23, x6, x0, x26, x27, (D 7), (D 8), (D 9), (D 10), (D 11), (D 12), (D 13), (D 14), (D 15), (D 16), (D 17), (D 18), (D 19), (D 20), (D 21), (D 22), (D 23), (D 24), (D 25), (D 26), (D 27), (D 28)] ++ [(D 29), (D 30), (D 31), (D 32), (D 33), (D 34), (D 35), (D 36), (D 37), (D 38), (D 39), (D 40), (D 41), (D 42), (D 43), (D 44), (D 45), (D 46), (D 47), (D 48), (D 49), (D 50), (D 51), (D 52), (D 53), (D 54), (D 55), (D 56), undef, undef, undef, undef, undef, undef, undef, undef, undef, undef, undef, undef, undef, undef, undef, undef, undef, undef, undef, undef, undef, undef] ++ [undef, undef, undef, undef, undef, undef, undef, undef, undef, undef, undef, undef, undef, undef, undef, undef, undef, undef, undef, undef, undef, undef, undef, undef, undef, undef, undef, undef]).toArray, []⟩) (by kernel_rfl) ?_
          refine wp_seq ?_
          refine wp_block ?_
          refine wp_seq ?_
          refine wp_seq ?_
          refine lwp_list ?_
          refine ls_move (x := x0) (by kernel_rfl) (by kernel_rfl) ?_
          refine ls_move (x := x6) (by kernel_rfl) (by kernel_rfl) ?_
          refine ls_p (d := some 32) (by kernel_rfl) (by kernel_rfl) (p_ixs Try.underlying22 Try.sizeOf30 (by kernel_rfl) (by kernel_rfl) H) (fun x32 H => ?_)
          refine ls_y (d := some 33) (by kernel_rfl) (by kernel_rfl) HA_3 (y_ld Try.isAgg30 (by kernel_rfl) H) (fun x33 H => ?_)
          refine ls_p (d := some 34) (by kernel_rfl) (by kernel_rfl) (p_len Try.underlying30 (by kernel_rfl) H) (fun x34 H => ?_)
          refine ls_p (d := some 35) (by kernel_rfl) (by kernel_rfl) (p_sGt (by kernel_rfl) (by kernel_rfl) H) (fun x35 H => ?_)
          refine ls_nil ?_
          refine then_normal ?_
          refine fr_eq (b := ⟨([x0, undef, (D 0), x21, x4, x5, x6, (D 1), (D 2), undef, undef, undef, undef, undef, undef, undef, x0, x17, x18, undef, x20, x21, x21, x23, x6, x0, x26, x27, (D 7), (D 8), x0, x6, x32, x33, x34, x35, (D 15), (D 16), (D 17), (D 18), (D 19), (D 20), (D 21), (D 22), (D 23), (D 24), (D 25), (D 26), (D 27), (D 28)] ++ [(D 29), (D 30), (D 31), (D 32), (D 33), (D 34), (D 35), (D 36), (D 37), (D 38), (D 39), (D 40), (D 41), (D 42), (D 43), (D 44), (D 45), (D 46), (D 47), (D 48), (D 49), (D 50), (D 51), (D 52), (D 53), (D 54), (D 55), (D 56), undef, undef, undef, undef, undef, undef, undef, undef, undef, undef, undef, undef, undef, undef, undef, undef, undef, undef, undef, undef, undef, undef] ++ [undef, undef, undef, undef, undef, undef, undef, undef, undef, undef, undef, undef, undef, undef, undef, undef, undef, undef, undef, undef, undef, undef, undef, undef, undef, undef, undef, undef]).toArray, []⟩) (by kernel_rfl) ?_
          refine wp_if rfl H (fun H => ?_) (fun H => ?_)
          · refine wp_seq ?_
            refine lwp_list ?_
            refine ls_d (d := some 36) (by kernel_rfl) (by kernel_rfl) HA_3 (d_call (by kernel_rfl) (by kernel_rfl) H) (fun x36 h_4 w_4 H HA_4 => ?_)
            refine ls_assign (x := x36) (by kernel_rfl) (by kernel_rfl) ?_
            refine ls_nil ?_
            refine then_normal ?_
            refine fr_eq (b := ⟨([x0, undef, x36, x21, x4, x5, x6, (D 1), (D 2), undef, undef, undef, undef, undef, undef, undef, x0, x17, x18, undef, x20, x21, x21, x23, x6, x0, x26, x27, (D 7), (D 8), x0, x6, x32, x33, x34, x35, x36, (D 16), (D 17), (D 18), (D 19), (D 20), (D 21), (D 22), (D 23), (D 24), (D 25), (D 26), (D 27), (D 28)] ++ [(D 29), (D 30), (D 31), (D 32), (D 33), (D 34), (D 35), (D 36), (D 37), (D 38), (D 39), (D 40), (D 41), (D 42), (D 43), (D 44), (D 45), (D 46), (D 47), (D 48), (D 49), (D 50), (D 51), (D 52), (D 53), (D 54), (D 55), (D 56), undef, undef, undef, undef, undef, undef, undef, undef, undef, undef, undef, undef, undef, undef, undef, undef, undef, undef, undef, undef, undef, undef] ++ [undef, undef, undef, undef, undef, undef, undef, undef, undef, undef, undef, undef, undef, undef, undef, undef, undef, undef, undef, undef, undef, undef, undef, undef, undef, undef, undef, undef]).toArray, []⟩) (by kernel_rfl) ?_
            refine wp_ret ?_
            refine then_ret ?_
            refine block_ret ?_
            refine then_ret ?_
            refine then_ret ?_
            refine block_ret ?_
            refine then_ret ?_
            exact end1 (Try.results9) (by kernel_rfl) (by kernel_rfl) HA_4 H _ (.inr rfl)
          · refine wp_skip ?_
            refine then_normal ?_
            refine fr_eq (b := ⟨([x0, undef, (D 0), x21, x4, x5, x6, (D 1), (D 2), undef, undef, undef, undef, undef, undef, undef, x0, x17, x18, undef, x20, x21, x21, x23, x6, x0, x26, x27, (D 7), (D 8), x0, x6, x32, x33, x34, x35, (D 15), (D 16), (D 17), (D 18), (D 19), (D 20), (D 21), (D 22), (D 23), (D 24), (D 25), (D 26), (D 27), (D 28)] ++ [(D 29), (D 30), (D 31), (D 32), (D 33), (D 34), (D 35), (D 36), (D 37), (D 38), (D 39), (D 40), (D 41), (D 42), (D 43), (D 44), (D 45), (D 46), (D 47), (D 48), (D 49), (D 50), (D 51), (D 52), (D 53), (D 54), (D 55), (D 56), undef, undef, undef, undef, undef, undef, undef, undef, undef, undef, undef, undef, undef, undef, undef, undef, undef, undef, undef, undef, undef, undef] ++ [undef, undef, undef, undef, undef, undef, undef, undef, undef, undef, undef, undef, undef, undef, undef, undef, undef, undef, undef, undef, undef, undef, undef, undef, undef, undef, undef, undef]).toArray, []⟩) (by kernel_rfl) ?_
            refine wp_seq ?_
            refine lwp_list ?_
            refine ls_assign (x := (.slice none 0 0)) (by kernel_rfl) (by kernel_rfl) ?_
            refine ls_nil ?_
            refine then_normal ?_
            refine fr_eq (b := ⟨([x0, undef, (D 0), x21, x4, x5, x6, (.slice none 0 0), (D 2), undef, undef, undef, undef, undef, undef, undef, x0, x17, x18, undef, x20, x21, x21, x23, x6, x0, x26, x27, (D 7), (D 8), x0, x6, x32, x33, x34, x35, (D 15), (D 16), (D 17), (D 18), (D 19), (D 20), (D 21), (D 22), (D 23), (D 24), (D 25), (D 26), (D 27), (D 28)] ++ [(D 29), (D 30), (D 31), (D 32), (D 33), (D 34), (D 35), (D 36), (D 37), (D 38), (D 39), (D 40), (D 41), (D 42), (D 43), (D 44), (D 45), (D 46), (D 47), (D 48), (D 49), (D 50), (D 51), (D 52), (D 53), (D 54), (D 55), (D 56), undef, undef, undef, undef, undef, undef, undef, undef, undef, undef, undef, undef, undef, undef, undef, undef, undef, undef, undef, undef, undef, undef] ++ [undef, undef, undef, undef, undef, undef, undef, undef, undef, undef, undef, undef, undef, undef, undef, undef, undef, undef, undef, undef, undef, undef, undef, undef, undef, undef, undef, undef]).toArray, []⟩) (by kernel_rfl) ?_
            refine wp_seq ?_
            refine wp_seq ?_
            refine lwp_list ?_
            refine ls_assign (x := (.int .i64 0)) (by kernel_rfl) (by kernel_rfl) ?_
            refine ls_nil ?_
            refine then_normal ?_
            refine fr_eq (b := ⟨([x0, undef, (D 0), x21, x4, x5, x6, (.slice none 0 0), (.int .i64 0), undef, undef, undef, undef, undef, undef, undef, x0, x17, x18, undef, x20, x21, x21, x23, x6, x0, x26, x27, (D 7), (D 8), x0, x6, x32, x33, x34, x35, (D 15), (D 16), (D 17), (D 18), (D 19), (D 20), (D 21), (D 22), (D 23), (D 24), (D 25), (D 26), (D 27), (D 28)] ++ [(D 29), (D 30), (D 31), (D 32), (D 33), (D 34), (D 35), (D 36), (D 37), (D 38), (D 39), (D 40), (D 41), (D 42), (D 43), (D 44), (D 45), (D 46), (D 47), (D 48), (D 49), (D 50), (D 51), (D 52), (D 53), (D 54), (D 55), (D 56), undef, undef, undef, undef, undef, undef, undef, undef, undef, undef, undef, undef, undef, undef, undef, undef, undef, undef, undef, undef, undef, undef] ++ [undef, undef, undef, undef, undef, undef, undef, undef, undef, undef, undef, undef, undef, undef, undef, undef, undef, undef, undef, undef, undef, undef, undef, undef, undef, undef, undef, undef]).toArray, []⟩) (by kernel_rfl) ?_
            refine wp_block ?_
            obtain ⟨I_1, m_1, H0, HB⟩ := H
            refine wp_loop (fun a w => ∃ (D_1 : Nat → Value) (x7 x8 : Value) (h_5 : Heap), a = ⟨([x0, undef, (D 0), x21, x4, x5, x6, x7, x8, undef, undef, undef, undef, undef, undef, undef, x0, x17, x18, undef, x20, x21, x21, x23, x6, x0, x26, x27, (D 7), (D 8), x0, x6, x32, x33, x34, x35, (D 15), (D_1 0), (D_1 1), (D_1 2), (D_1 3), (D_1 4), (D_1 5), (D_1 6), (D_1 7), (D_1 8), (D_1 9), (D_1 10), (D_1 11), (D_1 12)] ++ [(D_1 13), (D_1 14), (D_1 15), (D_1 16), (D_1 17), (D_1 18), (D_1 19), (D_1 20), (D 37), (D 38), (D 39), (D 40), (D 41), (D 42), (D 43), (D 44), (D 45), (D 46), (D 47), (D 48), (D 49), (D 50), (D 51), (D 52), (D 53), (D 54), (D 55), (D 56), undef, undef, undef, undef, undef, undef, undef, undef, undef, undef, undef, undef, undef, undef, undef, undef, undef, undef, undef, undef, undef, undef] ++ [undef, undef, undef, undef, undef, undef, undef, undef, undef, undef, undef, undef, undef, undef, undef, undef, undef, undef, undef, undef, undef, undef, undef, undef, undef, undef, undef, undef]).toArray, []⟩ ∧ At w0 w h_5 ∧ I_1 (x7, x8) h_5) (fun a w => m_1 ((a.tmps.getD 7 undef), (a.tmps.getD 8 undef)) w.heap) ?_ ?_
            · exact ⟨(fun i => ([(D 16), (D 17), (D 18), (D 19), (D 20), (D 21), (D 22), (D 23), (D 24), (D 25), (D 26), (D 27), (D 28), (D 29), (D 30), (D 31), (D 32), (D 33), (D 34), (D 35), (D 36)]).getD i undef), (.slice none 0 0), (.int .i64 0), h_3, by kernel_rfl, HA_3, H0⟩
            · rintro _ w_5 ⟨D_1, x7, x8, h_5, rfl, HA_5, HI⟩
              have H : betonylaw22_PtyLines_l2 (fun x4' x5' x6' h' => I (x4', x5', x6') h' ∧ m (x4', x5', x6') h' < m (x4, x5, x6) h_3) x0 x21 x4 x5 x6 (fun x7' x8' h' => I_1 (x7', x8') h' ∧ m_1 (x7', x8') h' < m_1 (x7, x8) h_5) x7 x8 h_5 := HB (x7, x8) h_5 HI
              clear HB H0 HI
              unfold betonylaw22_PtyLines_l2 at H
              refine wp_seq ?_
              refine wp_seq ?_
              refine lwp_list ?_
              refine ls_move (x := x8) (by kernel_rfl) (by kernel_rfl) ?_
              refine ls_move (x := x0) (by kernel_rfl) (by kernel_rfl) ?_
              refine ls_move (x := x6) (by kernel_rfl) (by kernel_rfl) ?_
              refine ls_p (d := some 40) (by kernel_rfl) (by kernel_rfl) (p_ixs Try.underlying22 Try.sizeOf30 (by kernel_rfl) (by kernel_rfl) H) (fun x40 H => ?_)
              refine ls_y (d := some 41) (by kernel_rfl) (by kernel_rfl) HA_5 (y_ld Try.isAgg30 (by kernel_rfl) H) (fun x41 H => ?_)
              refine ls_p (d := some 42) (by kernel_rfl) (by kernel_rfl) (p_len Try.underlying30 (by kernel_rfl) H) (fun x42 H => ?_)
              refine ls_fr (b := ⟨([x0, undef, (D 0), x21, x4, x5, x6, x7, x8, undef, undef, undef, undef, undef, undef, undef, x0, x17, x18, undef, x20, x21, x21, x23, x6, x0, x26, x27, (D 7), (D 8), x0, x6, x32, x33, x34, x35, (D 15), x8, x0, x6, x40, x41, x42, (D_1 6), (D_1 7), (D_1 8), (D_1 9), (D_1 10), (D_1 11), (D_1 12)] ++ [(D_1 13), (D_1 14), (D_1 15), (D_1 16), (D_1 17), (D_1 18), (D_1 19), (D_1 20), (D 37), (D 38), (D 39), (D 40), (D 41), (D 42), (D 43), (D 44), (D 45), (D 46), (D 47), (D 48), (D 49), (D 50), (D 51), (D 52), (D 53), (D 54), (D 55), (D 56), undef, undef, undef, undef, undef, undef, undef, undef, undef, undef, undef, undef, undef, undef, undef, undef, undef, undef, undef, undef, undef, undef] ++ [undef, undef, undef, undef, undef, undef, undef, undef, undef, undef, undef, undef, undef, undef, undef, undef, undef, undef, undef, undef, undef, undef, undef, undef, undef, undef, undef, undef]).toArray, []⟩) (by kernel_rfl) ?_
              refine ls_p (d := some 43) (by kernel_rfl) (by kernel_rfl) (p_sLt (by kernel_rfl) (by kernel_rfl) H) (fun x43 H => ?_)
              refine ls_nil ?_
              refine then_normal ?_
              refine fr_eq (b := ⟨([x0, undef, (D 0), x21, x4, x5, x6, x7, x8, undef, undef, undef, undef, undef, undef, undef, x0, x17, x18, undef, x20, x21, x21, x23, x6, x0, x26, x27, (D 7), (D 8), x0, x6, x32, x33, x34, x35, (D 15), x8, x0, x6, x40, x41, x42, x43, (D_1 7), (D_1 8), (D_1 9), (D_1 10), (D_1 11), (D_1 12)] ++ [(D_1 13), (D_1 14), (D_1 15), (D_1 16), (D_1 17), (D_1 18), (D_1 19), (D_1 20), (D 37), (D 38), (D 39), (D 40), (D 41), (D 42), (D 43), (D 44), (D 45), (D 46), (D 47), (D 48), (D 49), (D 50), (D 51), (D 52), (D 53), (D 54), (D 55), (D 56), undef, undef, undef, undef, undef, undef, undef, undef, undef, undef, undef, undef, undef, undef, undef, undef, undef, undef, undef, undef, undef, undef] ++ [undef, undef, undef, undef, undef, undef, undef, undef, undef, undef, undef, undef, undef, undef, undef, undef, undef, undef, undef, undef, undef, undef, undef, undef, undef, undef, undef, undef]).toArray, []⟩) (by kernel_rfl) ?_
              refine wp_if rfl H (fun H => ?_) (fun H => ?_)
              · refine wp_skip ?_
                refine then_normal ?_
                refine fr_eq (b := ⟨([x0, undef, (D 0), x21, x4, x5, x6, x7, x8, undef, undef, undef, undef, undef, undef, undef, x0, x17, x18, undef, x20, x21, x21, x23, x6, x0, x26, x27, (D 7), (D 8), x0, x6, x32, x33, x34, x35, (D 15), x8, x0, x6, x40, x41, x42, x43, (D_1 7), (D_1 8), (D_1 9), (D_1 10), (D_1 11), (D_1 12)] ++ [(D_1 13), (D_1 14), (D_1 15), (D_1 16), (D_1 17), (D_1 18), (D_1 19), (D_1 20), (D 37), (D 38), (D 39), (D 40), (D 41), (D 42), (D 43), (D 44), (D 45), (D 46), (D 47), (D 48), (D 49), (D 50), (D 51), (D 52), (D 53), (D 54), (D 55), (D 56), undef, undef, undef, undef, undef, undef, undef, undef, undef, undef, undef, undef, undef, undef, undef, undef, undef, undef, undef, undef, undef, undef] ++ [undef, undef, undef, undef, undef, undef, undef, undef, undef, undef, undef, undef, undef, undef, undef, undef, undef, undef, undef, undef, undef, undef, undef, undef, undef, undef, undef, undef]).toArray, []⟩) (by kernel_rfl) ?_
                refine wp_seq ?_
                refine wp_block ?_
                refine lwp_list ?_
                refine ls_move (x := x7) (by kernel_rfl) (by kernel_rfl) ?_
                refine ls_move (x := x0) (by kernel_rfl) (by kernel_rfl) ?_
                refine ls_move (x := x6) (by kernel_rfl) (by kernel_rfl) ?_
                refine ls_p (d := some 49) (by kernel_rfl) (by kernel_rfl) (p_ixs Try.underlying22 Try.sizeOf30 (by kernel_rfl) (by kernel_rfl) H) (fun x49 H => ?_)
                refine ls_y (d := some 50) (by kernel_rfl) (by kernel_rfl) HA_5 (y_ld Try.isAgg30 (by kernel_rfl) H) (fun x50 H => ?_)
                refine ls_move (x := x8) (by kernel_rfl) (by kernel_rfl) ?_
                refine ls_fr (b := ⟨([x0, undef, (D 0), x21, x4, x5, x6, x7, x8, undef, undef, undef, undef, undef, undef, undef, x0, x17, x18, undef, x20, x21, x21, x23, x6, x0, x26, x27, (D 7), (D 8), x0, x6, x32, x33, x34, x35, (D 15), x8, x0, x6, x40, x41, x42, x43, (D_1 7), (D_1 8), x7, x0, x6, x49] ++ [x50, x8, (D_1 15), (D_1 16), (D_1 17), (D_1 18), (D_1 19), (D_1 20), (D 37), (D 38), (D 39), (D 40), (D 41), (D 42), (D 43), (D 44), (D 45), (D 46), (D 47), (D 48), (D 49), (D 50), (D 51), (D 52), (D 53), (D 54), (D 55), (D 56), undef, undef, undef, undef, undef, undef, undef, undef, undef, undef, undef, undef, undef, undef, undef, undef, undef, undef, undef, undef, undef, undef] ++ [undef, undef, undef, undef, undef, undef, undef, undef, undef, undef, undef, undef, undef, undef, undef, undef, undef, undef, undef, undef, undef, undef, undef, undef, undef, undef, undef, undef]).toArray, []⟩) (by kernel_rfl) ?_
                refine ls_p (d := some 52) (by kernel_rfl) (by kernel_rfl) (p_ixs Try.underlying30 Try.sizeOf5 (by kernel_rfl) (by kernel_rfl) H) (fun x52 H => ?_)
                refine ls_y (d := some 53) (by kernel_rfl) (by kernel_rfl) HA_5 (y_ld Try.isAgg5 (by kernel_rfl) H) (fun x53 H => ?_)
                refine ls_p (d := some 54) (by kernel_rfl) (by kernel_rfl) (p_rem (by kernel_rfl) (by kernel_rfl) H) (fun x54 H => ?_)
                refine ls_p (d := some 55) (by kernel_rfl) (by kernel_rfl) (p_add (by kernel_rfl) (by kernel_rfl) H) (fun x55 H => ?_)
                refine ls_d (d := some 56) (by kernel_rfl) (by kernel_rfl) HA_5 (d_slit (zc := #[.int .u8 0]) Try.underlying30 Try.sizeOf5 (by decide) (.inr ⟨by decide, _, Try.zeroValue5, (by kernel_rfl)⟩) (by kernel_rfl) (by kernel_rfl) H) (fun x56 h_6 w_6 H HA_6 => ?_)
                refine ls_d (d := some 57) (by kernel_rfl) (by kernel_rfl) HA_6 (d_app (z := #[.int .u8 0]) Try.underlying30 Try.underlying30 (.inl ⟨_, rfl⟩) Try.typeInfo5 (by kernel_rfl) Try.sizeOf5 Try.zeroValue5 (by kernel_rfl) (by kernel_rfl) (by kernel_rfl) H) (fun x57 h_7 w_7 H HA_7 => ?_)
                refine ls_fr (b := ⟨([x0, undef, (D 0), x21, x4, x5, x6, x7, x8, undef, undef, undef, undef, undef, undef, undef, x0, x17, x18, undef, x20, x21, x21, x23, x6, x0, x26, x27, (D 7), (D 8), x0, x6, x32, x33, x34, x35, (D 15), x8, x0, x6, x40, x41, x42, x43, (D_1 7), (D_1 8), x7, x0, x6, x49] ++ [x50, x8, x52, x53, x54, x55, x56, x57, (D 37), (D 38), (D 39), (D 40), (D 41), (D 42), (D 43), (D 44), (D 45), (D 46), (D 47), (D 48), (D 49), (D 50), (D 51), (D 52), (D 53), (D 54), (D 55), (D 56), undef, undef, undef, undef, undef, undef, undef, undef, undef, undef, undef, undef, undef, undef, undef, undef, undef, undef, undef, undef, undef, undef] ++ [undef, undef, undef, undef, undef, undef, undef, undef, undef, undef, undef, undef, undef, undef, undef, undef, undef, undef, undef, undef, undef, undef, undef, undef, undef, undef, undef, undef]).toArray, []⟩) (by kernel_rfl) ?_
                refine ls_assign (x := x57) (by kernel_rfl) (by kernel_rfl) ?_
                refine ls_nil ?_
                refine block_normal ?_
                refine then_normal ?_
                refine fr_eq (b := ⟨([x0, undef, (D 0), x21, x4, x5, x6, x57, x8, undef, undef, undef, undef, undef, undef, undef, x0, x17, x18, undef, x20, x21, x21, x23, x6, x0, x26, x27, (D 7), (D 8), x0, x6, x32, x33, x34, x35, (D 15), x8, x0, x6, x40, x41, x42, x43, (D_1 7), (D_1 8), x7, x0, x6, x49] ++ [x50, x8, x52, x53, x54, x55, x56, x57, (D 37), (D 38), (D 39), (D 40), (D 41), (D 42), (D 43), (D 44), (D 45), (D 46), (D 47), (D 48), (D 49), (D 50), (D 51), (D 52), (D 53), (D 54), (D 55), (D 56), undef, undef, undef, undef, undef, undef, undef, undef, undef, undef, undef, undef, undef, undef, undef, undef, undef, undef, undef, undef, undef, undef] ++ [undef, undef, undef, undef, undef, undef, undef, undef, undef, undef, undef, undef, undef, undef, undef, undef, undef, undef, undef, undef, undef, undef, undef, undef, undef, undef, undef, undef]).toArray, []⟩) (by kernel_rfl) ?_
                refine lwp_list ?_
                refine ls_move (x := x8) (by kernel_rfl) (by kernel_rfl) ?_
                refine ls_p (d := some 45) (by kernel_rfl) (by kernel_rfl) (p_add (by kernel_rfl) (by kernel_rfl) H) (fun x45 H => ?_)
                refine ls_assign (x := x45) (by kernel_rfl) (by kernel_rfl) ?_
                refine ls_nil ?_
                exact ⟨⟨(fun i => ([x8, x0, x6, x40, x41, x42, x43, x8, x45, x7, x0, x6, x49, x50, x8, x52, x53, x54, x55, x56, x57]).getD i undef), x57, x45, h_7, by kernel_rfl, HA_7, H.1⟩, loop_lt HA_7.heap HA_5.heap (by kernel_rfl) (by kernel_rfl) H.2⟩
              · refine wp_exit ?_
                refine then_exit ?_
                refine then_exit ?_
                refine block_exit ?_
                refine then_normal ?_
                refine fr_eq (b := ⟨([x0, undef, (D 0), x21, x4, x5, x6, x7, x8, undef, undef, undef, undef, undef, undef, undef, x0, x17, x18, undef, x20, x21, x21, x23, x6, x0, x26, x27, (D 7), (D 8), x0, x6, x32, x33, x34, x35, (D 15), x8, x0, x6, x40, x41, x42, x43, (D_1 7), (D_1 8), (D_1 9), (D_1 10), (D_1 11), (D_1 12)] ++ [(D_1 13), (D_1 14), (D_1 15), (D_1 16), (D_1 17), (D_1 18), (D_1 19), (D_1 20), (D 37), (D 38), (D 39), (D 40), (D 41), (D 42), (D 43), (D 44), (D 45), (D 46), (D 47), (D 48), (D 49), (D 50), (D 51), (D 52), (D 53), (D 54), (D 55), (D 56), undef, undef, undef, undef, undef, undef, undef, undef, undef, undef, undef, undef, undef, undef, undef, undef, undef, undef, undef, undef, undef, undef] ++ [undef, undef, undef, undef, undef, undef, undef, undef, undef, undef, undef, undef, undef, undef, undef, undef, undef, undef, undef, undef, undef, undef, undef, undef, undef, undef, undef, undef]).toArray, []⟩) (by kernel_rfl) ?_
                refine wp_seq ?_
                refine lwp_list ?_
                refine ls_move (x := x4) (by kernel_rfl) (by kernel_rfl) ?_
                refine ls_d (d := some 59) (by kernel_rfl) (by kernel_rfl) HA_5 (d_slit (zc := #[]) Try.underlying30 Try.sizeOf5 (by decide) (.inl ⟨(by kernel_rfl), (by kernel_rfl)⟩) (by kernel_rfl) (by kernel_rfl) H) (fun x59 h_8 w_8 H HA_8 => ?_)
                refine ls_move (x := x7) (by kernel_rfl) (by kernel_rfl) ?_
                refine ls_d (d := some 61) (by kernel_rfl) (by kernel_rfl) HA_8 (d_app (z := #[.int .u8 0]) Try.underlying30 Try.underlying30 (.inl ⟨_, rfl⟩) Try.typeInfo5 (by kernel_rfl) Try.sizeOf5 Try.zeroValue5 (by kernel_rfl) (by kernel_rfl) (by kernel_rfl) H) (fun x61 h_9 w_9 H HA_9 => ?_)
                refine ls_d (d := some 62) (by kernel_rfl) (by kernel_rfl) HA_9 (d_slit (zc := #[.int .u8 0]) Try.underlying30 Try.sizeOf5 (by decide) (.inr ⟨by decide, _, Try.zeroValue5, (by kernel_rfl)⟩) (by kernel_rfl) (by kernel_rfl) H) (fun x62 h_10 w_10 H HA_10 => ?_)
                refine ls_d (d := some 63) (by kernel_rfl) (by kernel_rfl) HA_10 (d_app (z := #[.int .u8 0]) Try.underlying30 Try.underlying30 (.inl ⟨_, rfl⟩) Try.typeInfo5 (by kernel_rfl) Try.sizeOf5 Try.zeroValue5 (by kernel_rfl) (by kernel_rfl) (by kernel_rfl) H) (fun x63 h_11 w_11 H HA_11 => ?_)
                refine ls_fr (b := ⟨([x0, undef, (D 0), x21, x4, x5, x6, x7, x8, undef, undef, undef, undef, undef, undef, undef, x0, x17, x18, undef, x20, x21, x21, x23, x6, x0, x26, x27, (D 7), (D 8), x0, x6, x32, x33, x34, x35, (D 15), x8, x0, x6, x40, x41, x42, x43, (D_1 7), (D_1 8), (D_1 9), (D_1 10), (D_1 11), (D_1 12)] ++ [(D_1 13), (D_1 14), (D_1 15), (D_1 16), (D_1 17), (D_1 18), (D_1 19), (D_1 20), x4, x59, x7, x61, x62, x63, (D 43), (D 44), (D 45), (D 46), (D 47), (D 48), (D 49), (D 50), (D 51), (D 52), (D 53), (D 54), (D 55), (D 56), undef, undef, undef, undef, undef, undef, undef, undef, undef, undef, undef, undef, undef, undef, undef, undef, undef, undef, undef, undef, undef, undef] ++ [undef, undef, undef, undef, undef, undef, undef, undef, undef, undef, undef, undef, undef, undef, undef, undef, undef, undef, undef, undef, undef, undef, undef, undef, undef, undef, undef, undef]).toArray, []⟩) (by kernel_rfl) ?_
                refine ls_d (d := some 64) (by kernel_rfl) (by kernel_rfl) HA_11 (d_slit (zc := #[.slice none 0 0]) Try.underlying22 Try.sizeOf30 (by decide) (.inr ⟨by decide, _, Try.zeroValue30, (by kernel_rfl)⟩) (by kernel_rfl) (by kernel_rfl) H) (fun x64 h_12 w_12 H HA_12 => ?_)
                refine ls_d (d := some 65) (by kernel_rfl) (by kernel_rfl) HA_12 (d_app (z := #[.slice none 0 0]) Try.underlying22 Try.underlying22 (.inl ⟨_, rfl⟩) Try.typeInfo30 (by kernel_rfl) Try.sizeOf30 Try.zeroValue30 (by kernel_rfl) (by kernel_rfl) (by kernel_rfl) H) (fun x65 h_13 w_13 H HA_13 => ?_)
                refine ls_assign (x := x65) (by kernel_rfl) (by kernel_rfl) ?_
                refine ls_nil ?_
                refine then_normal ?_
                refine fr_eq (b := ⟨([x0, undef, (D 0), x21, x65, x5, x6, x7, x8, undef, undef, undef, undef, undef, undef, undef, x0, x17, x18, undef, x20, x21, x21, x23, x6, x0, x26, x27, (D 7), (D 8), x0, x6, x32, x33, x34, x35, (D 15), x8, x0, x6, x40, x41, x42, x43, (D_1 7), (D_1 8), (D_1 9), (D_1 10), (D_1 11), (D_1 12)] ++ [(D_1 13), (D_1 14), (D_1 15), (D_1 16), (D_1 17), (D_1 18), (D_1 19), (D_1 20), x4, x59, x7, x61, x62, x63, x64, x65, (D 45), (D 46), (D 47), (D 48), (D 49), (D 50), (D 51), (D 52), (D 53), (D 54), (D 55), (D 56), undef, undef, undef, undef, undef, undef, undef, undef, undef, undef, undef, undef, undef, undef, undef, undef, undef, undef, undef, undef, undef, undef] ++ [undef, undef, undef, undef, undef, undef, undef, undef, undef, undef, undef, undef, undef, undef, undef, undef, undef, undef, undef, undef, undef, undef, undef, undef, undef, undef, undef, undef]).toArray, []⟩) (by kernel_rfl) ?_
                refine wp_seq ?_
                refine lwp_list ?_
                refine ls_move (x := x5) (by kernel_rfl) (by kernel_rfl) ?_
                refine ls_move (x := x7) (by kernel_rfl) (by kernel_rfl) ?_
                refine ls_d (d := some 68) (by kernel_rfl) (by kernel_rfl) HA_13 (d_app (z := #[.int .u8 0]) Try.underlying30 Try.underlying30 (.inl ⟨_, rfl⟩) Try.typeInfo5 (by kernel_rfl) Try.sizeOf5 Try.zeroValue5 (by kernel_rfl) (by kernel_rfl) (by kernel_rfl) H) (fun x68 h_14 w_14 H HA_14 => ?_)
                refine ls_d (d := some 69) (by kernel_rfl) (by kernel_rfl) HA_14 (d_slit (zc := #[.int .u8 0]) Try.underlying30 Try.sizeOf5 (by decide) (.inr ⟨by decide, _, Try.zeroValue5, (by kernel_rfl)⟩) (by kernel_rfl) (by kernel_rfl) H) (fun x69 h_15 w_15 H HA_15 => ?_)
                refine ls_d (d := some 70) (by kernel_rfl) (by kernel_rfl) HA_15 (d_app (z := #[.int .u8 0]) Try.underlying30 Try.underlying30 (.inl ⟨_, rfl⟩) Try.typeInfo5 (by kernel_rfl) Try.sizeOf5 Try.zeroValue5 (by kernel_rfl) (by kernel_rfl) (by kernel_rfl) H) (fun x70 h_16 w_16 H HA_16 => ?_)
                refine ls_assign (x := x70) (by kernel_rfl) (by kernel_rfl) ?_
                refine ls_nil ?_
                refine then_normal ?_
                refine fr_eq (b := ⟨([x0, undef, (D 0), x21, x65, x70, x6, x7, x8, undef, undef, undef, undef, undef, undef, undef, x0, x17, x18, undef, x20, x21, x21, x23, x6, x0, x26, x27, (D 7), (D 8), x0, x6, x32, x33, x34, x35, (D 15), x8, x0, x6, x40, x41, x42, x43, (D_1 7), (D_1 8), (D_1 9), (D_1 10), (D_1 11), (D_1 12)] ++ [(D_1 13), (D_1 14), (D_1 15), (D_1 16), (D_1 17), (D_1 18), (D_1 19), (D_1 20), x4, x59, x7, x61, x62, x63, x64, x65, x5, x7, x68, x69, x70, (D 50), (D 51), (D 52), (D 53), (D 54), (D 55), (D 56), undef, undef, undef, undef, undef, undef, undef, undef, undef, undef, undef, undef, undef, undef, undef, undef, undef, undef, undef, undef, undef, undef] ++ [undef, undef, undef, undef, undef, undef, undef, undef, undef, undef, undef, undef, undef, undef, undef, undef, undef, undef, undef, undef, undef, undef, undef, undef, undef, undef, undef, undef]).toArray, []⟩) (by kernel_rfl) ?_
                refine lwp_list ?_
                refine ls_move (x := x21) (by kernel_rfl) (by kernel_rfl) ?_
                refine ls_d (d := some 72) (by kernel_rfl) (by kernel_rfl) HA_16 (d_slit (zc := #[]) Try.underlying30 Try.sizeOf5 (by decide) (.inl ⟨(by kernel_rfl), (by kernel_rfl)⟩) (by kernel_rfl) (by kernel_rfl) H) (fun x72 h_17 w_17 H HA_17 => ?_)
                refine ls_move (x := x7) (by kernel_rfl) (by kernel_rfl) ?_
                refine ls_d (d := some 74) (by kernel_rfl) (by kernel_rfl) HA_17 (d_app (z := #[.int .u8 0]) Try.underlying30 Try.underlying30 (.inl ⟨_, rfl⟩) Try.typeInfo5 (by kernel_rfl) Try.sizeOf5 Try.zeroValue5 (by kernel_rfl) (by kernel_rfl) (by kernel_rfl) H) (fun x74 h_18 w_18 H HA_18 => ?_)
                refine ls_d (d := some 75) (by kernel_rfl) (by kernel_rfl) HA_18 (d_slit (zc := #[.int .u8 0]) Try.underlying30 Try.sizeOf5 (by decide) (.inr ⟨by decide, _, Try.zeroValue5, (by kernel_rfl)⟩) (by kernel_rfl) (by kernel_rfl) H) (fun x75 h_19 w_19 H HA_19 => ?_)
                refine ls_d (d := some 76) (by kernel_rfl) (by kernel_rfl) HA_19 (d_app (z := #[.int .u8 0]) Try.underlying30 Try.underlying30 (.inl ⟨_, rfl⟩) Try.typeInfo5 (by kernel_rfl) Try.sizeOf5 Try.zeroValue5 (by kernel_rfl) (by kernel_rfl) (by kernel_rfl) H) (fun x76 h_20 w_20 H HA_20 => ?_)
                refine ls_fr (b := ⟨([x0, undef, (D 0), x21, x65, x70, x6, x7, x8, undef, undef, undef, undef, undef, undef, undef, x0, x17, x18, undef, x20, x21, x21, x23, x6, x0, x26, x27, (D 7), (D 8), x0, x6, x32, x33, x34, x35, (D 15), x8, x0, x6, x40, x41, x42, x43, (D_1 7), (D_1 8), (D_1 9), (D_1 10), (D_1 11), (D_1 12)] ++ [(D_1 13), (D_1 14), (D_1 15), (D_1 16), (D_1 17), (D_1 18), (D_1 19), (D_1 20), x4, x59, x7, x61, x62, x63, x64, x65, x5, x7, x68, x69, x70, x21, x72, x7, x74, x75, x76, (D 56), undef, undef, undef, undef, undef, undef, undef, undef, undef, undef, undef, undef, undef, undef, undef, undef, undef, undef, undef, undef, undef, undef] ++ [undef, undef, undef, undef, undef, undef, undef, undef, undef, undef, undef, undef, undef, undef, undef, undef, undef, undef, undef, undef, undef, undef, undef, undef, undef, undef, undef, undef]).toArray, []⟩) (by kernel_rfl) ?_
                refine ls_d (d := some 77) (by kernel_rfl) (by kernel_rfl) HA_20 (d_call (by kernel_rfl) (by kernel_rfl) H) (fun x77 h_21 w_21 H HA_21 => ?_)
                refine ls_nil ?_
                refine block_normal ?_
                refine then_normal ?_
                refine fr_eq (b := ⟨([x0, undef, (D 0), x21, x65, x70, x6, x7, x8, undef, undef, undef, undef, undef, undef, undef, x0, x17, x18, undef, x20, x21, x21, x23, x6, x0, x26, x27, (D 7), (D 8), x0, x6, x32, x33, x34, x35, (D 15), x8, x0, x6, x40, x41, x42, x43, (D_1 7), (D_1 8), (D_1 9), (D_1 10), (D_1 11), (D_1 12)] ++ [(D_1 13), (D_1 14), (D_1 15), (D_1 16), (D_1 17), (D_1 18), (D_1 19), (D_1 20), x4, x59, x7, x61, x62, x63, x64, x65, x5, x7, x68, x69, x70, x21, x72, x7, x74, x75, x76, x77, undef, undef, undef, undef, undef, undef, undef, undef, undef, undef, undef, undef, undef, undef, undef, undef, undef, undef, undef, undef, undef, undef] ++ [undef, undef, undef, undef, undef, undef, undef, undef, undef, undef, undef, undef, undef, undef, undef, undef, undef, undef, undef, undef, undef, undef, undef, undef, undef, undef, undef, undef]).toArray, []⟩) (by kernel_rfl) ?_
                refine lwp_list ?_
                refine ls_move (x := x6) (by kernel_rfl) (by kernel_rfl) ?_
                refine ls_p (d := some 29) (by kernel_rfl) (by kernel_rfl) (p_add (by kernel_rfl) (by kernel_rfl) H) (fun x29 H => ?_)
                refine ls_assign (x := x29) (by kernel_rfl) (by kernel_rfl) ?_
                refine ls_nil ?_
                exact ⟨⟨(fun i => ([(D 0), x7, x8, x6, x0, x26, x27, x6, x29, x0, x6, x32, x33, x34, x35, (D 15), x8, x0, x6, x40, x41, x42, x43, (D_1 7), (D_1 8), (D_1 9), (D_1 10), (D_1 11), (D_1 12), (D_1 13), (D_1 14), (D_1 15), (D_1 16), (D_1 17), (D_1 18), (D_1 19), (D_1 20), x4, x59, x7, x61, x62, x63, x64, x65, x5, x7, x68, x69, x70] ++ [x21, x72, x7, x74, x75, x76, x77]).getD i undef), x65, x70, x29, h_21, by kernel_rfl, HA_21, H.1⟩, loop_lt HA_21.heap HA_3.heap (by kernel_rfl) (by kernel_rfl) H.2⟩
        · refine wp_exit ?_
          refine then_exit ?_
          refine then_exit ?_
          refine block_exit ?_
          refine then_normal ?_
          refine fr_eq (b := ⟨([x0, undef, (D 0), x21, x4, x5, x6, (D 1), (D 2), undef, undef, undef, undef, undef, undef, undef, x0, x17, x18, undef, x20, x21, x21, x23, x6, x0, x26, x27, (D 7), (D 8), (D 9), (D 10), (D 11), (D 12), (D 13), (D 14), (D 15), (D 16), (D 17), (D 18), (D 19), (D 20), (D 21), (D 22), (D 23), (D 24), (D 25), (D 26), (D 27), (D 28)] ++ [(D 29), (D 30), (D 31), (D 32), (D 33), (D 34), (D 35), (D 36), (D 37), (D 38), (D 39), (D 40), (D 41), (D 42), (D 43), (D 44), (D 45), (D 46), (D 47), (D 48), (D 49), (D 50), (D 51), (D 52), (D 53), (D 54), (D 55), (D 56), undef, undef, undef, undef, undef, undef, undef, undef, undef, undef, undef, undef, undef, undef, undef, undef, undef, undef, undef, undef, undef, undef] ++ [undef, undef, undef, undef, undef, undef, undef, undef, undef, undef, undef, undef, undef, undef, undef, undef, undef, undef, undef, undef, undef, undef, undef, undef, undef, undef, undef, undef]).toArray, []⟩) (by kernel_rfl) ?_
          refine wp_seq ?_
          refine wp_seq ?_
          refine lwp_list ?_
          refine ls_assign (x := (.int .i64 0)) (by kernel_rfl) (by kernel_rfl) ?_
          refine ls_nil ?_
          refine then_normal ?_
          refine fr_eq (b := ⟨([x0, undef, (D 0), x21, x4, x5, x6, (D 1), (D 2), (.int .i64 0), undef, undef, undef, undef, undef, undef, x0, x17, x18, undef, x20, x21, x21, x23, x6, x0, x26, x27, (D 7), (D 8), (D 9), (D 10), (D 11), (D 12), (D 13), (D 14), (D 15), (D 16), (D 17), (D 18), (D 19), (D 20), (D 21), (D 22), (D 23), (D 24), (D 25), (D 26), (D 27), (D 28)] ++ [(D 29), (D 30), (D 31), (D 32), (D 33), (D 34), (D 35), (D 36), (D 37), (D 38), (D 39), (D 40), (D 41), (D 42), (D 43), (D 44), (D 45), (D 46), (D 47), (D 48), (D 49), (D 50), (D 51), (D 52), (D 53), (D 54), (D 55), (D 56), undef, undef, undef, undef, undef, undef, undef, undef, undef, undef, undef, undef, undef, undef, undef, undef, undef, undef, undef, undef, undef, undef] ++ [undef, undef, undef, undef, undef, undef, undef, undef, undef, undef, undef, undef, undef, undef, undef, undef, undef, undef, undef, undef, undef, undef, undef, undef, undef, undef, undef, undef]).toArray, []⟩) (by kernel_rfl) ?_
          refine wp_block ?_
          obtain ⟨I_2, m_2, H0, HB⟩ := H
          refine wp_loop (fun a w => ∃ (D_2 : Nat → Value) (x9 : Value) (h_22 : Heap), a = ⟨([x0, undef, (D_2 0), x21, x4, x5, x6, (D 1), (D 2), x9, (D_2 1), (D_2 2), undef, undef, undef, undef, x0, x17, x18, undef, x20, x21, x21, x23, x6, x0, x26, x27, (D 7), (D 8), (D 9), (D 10), (D 11), (D 12), (D 13), (D 14), (D 15), (D 16), (D 17), (D 18), (D 19), (D 20), (D 21), (D 22), (D 23), (D 24), (D 25), (D 26), (D 27), (D 28)] ++ [(D 29), (D 30), (D 31), (D 32), (D 33), (D 34), (D 35), (D 36), (D 37), (D 38), (D 39), (D 40), (D 41), (D 42), (D 43), (D 44), (D 45), (D 46), (D 47), (D 48), (D 49), (D 50), (D 51), (D 52), (D 53), (D 54), (D 55), (D 56), (D_2 3), (D_2 4), (D_2 5), (D_2 6), (D_2 7), (D_2 8), (D_2 9), (D_2 10), (D_2 11), (D_2 12), (D_2 13), (D_2 14), (D_2 15), (D_2 16), (D_2 17), (D_2 18), (D_2 19), (D_2 20), (D_2 21), (D_2 22), (D_2 23), (D_2 24)] ++ [undef, undef, undef, undef, undef, undef, undef, undef, undef, undef, undef, undef, undef, undef, undef, undef, undef, undef, undef, undef, undef, undef, undef, undef, undef, undef, undef, undef]).toArray, []⟩ ∧ At w0 w h_22 ∧ I_2 x9 h_22) (fun a w => m_2 (a.tmps.getD 9 undef) w.heap) ?_ ?_
          · exact ⟨(fun i => ([(D 0), undef, undef, undef, undef, undef, undef, undef, undef, undef, undef, undef, undef, undef, undef, undef, undef, undef, undef, undef, undef, undef, undef, undef, undef]).getD i undef), (.int .i64 0), h_3, by kernel_rfl, HA_3, H0⟩
          · rintro _ w_22 ⟨D_2, x9, h_22, rfl, HA_22, HI⟩
            have H : betonylaw22_PtyLines_l3 R x21 x4 x5 (fun x9' h' => I_2 x9' h' ∧ m_2 x9' h' < m_2 x9 h_22) x9 h_22 := HB x9 h_22 HI
            clear HB H0 HI
            unfold betonylaw22_PtyLines_l3 at H
            refine wp_seq ?_
            refine wp_seq ?_
            refine lwp_list ?_
            refine ls_move (x := x9) (by kernel_rfl) (by kernel_rfl) ?_
            refine ls_move (x := x4) (by kernel_rfl) (by kernel_rfl) ?_
            refine ls_p (d := some 80) (by kernel_rfl) (by kernel_rfl) (p_len Try.underlying22 (by kernel_rfl) H) (fun x80 H => ?_)
            refine ls_p (d := some 81) (by kernel_rfl) (by kernel_rfl) (p_sLt (by kernel_rfl) (by kernel_rfl) H) (fun x81 H => ?_)
            refine ls_nil ?_
            refine then_normal ?_
            refine fr_eq (b := ⟨([x0, undef, (D_2 0), x21, x4, x5, x6, (D 1), (D 2), x9, (D_2 1), (D_2 2), undef, undef, undef, undef, x0, x17, x18, undef, x20, x21, x21, x23, x6, x0, x26, x27, (D 7), (D 8), (D 9), (D 10), (D 11), (D 12), (D 13), (D 14), (D 15), (D 16), (D 17), (D 18), (D 19), (D 20), (D 21), (D 22), (D 23), (D 24), (D 25), (D 26), (D 27), (D 28)] ++ [(D 29), (D 30), (D 31), (D 32), (D 33), (D 34), (D 35), (D 36), (D 37), (D 38), (D 39), (D 40), (D 41), (D 42), (D 43), (D 44), (D 45), (D 46), (D 47), (D 48), (D 49), (D 50), (D 51), (D 52), (D 53), (D 54), (D 55), (D 56), x9, x4, x80, x81, (D_2 7), (D_2 8), (D_2 9), (D_2 10), (D_2 11), (D_2 12), (D_2 13), (D_2 14), (D_2 15), (D_2 16), (D_2 17), (D_2 18), (D_2 19), (D_2 20), (D_2 21), (D_2 22), (D_2 23), (D_2 24)] ++ [undef, undef, undef, undef, undef, undef, undef, undef, undef, undef, undef, undef, undef, undef, undef, undef, undef, undef, undef, undef, undef, undef, undef, undef, undef, undef, undef, undef]).toArray, []⟩) (by kernel_rfl) ?_
            refine wp_if rfl H (fun H => ?_) (fun H => ?_)
            · refine wp_skip ?_
              refine then_normal ?_
              refine fr_eq (b := ⟨([x0, undef, (D_2 0), x21, x4, x5, x6, (D 1), (D 2), x9, (D_2 1), (D_2 2), undef, undef, undef, undef, x0, x17, x18, undef, x20, x21, x21, x23, x6, x0, x26, x27, (D 7), (D 8), (D 9), (D 10), (D 11), (D 12), (D 13), (D 14), (D 15), (D 16), (D 17), (D 18), (D 19), (D 20), (D 21), (D 22), (D 23), (D 24), (D 25), (D 26), (D 27), (D 28)] ++ [(D 29), (D 30), (D 31), (D 32), (D 33), (D 34), (D 35), (D 36), (D 37), (D 38), (D 39), (D 40), (D 41), (D 42), (D 43), (D 44), (D 45), (D 46), (D 47), (D 48), (D 49), (D 50), (D 51), (D 52), (D 53), (D 54), (D 55), (D 56), x9, x4, x80, x81, (D_2 7), (D_2 8), (D_2 9), (D_2 10), (D_2 11), (D_2 12), (D_2 13), (D_2 14), (D_2 15), (D_2 16), (D_2 17), (D_2 18), (D_2 19), (D_2 20), (D_2 21), (D_2 22), (D_2 23), (D_2 24)] ++ [undef, undef, undef, undef, undef, undef, undef, undef, undef, undef, undef, undef, undef, undef, undef, undef, undef, undef, undef, undef, undef, undef, undef, undef, undef, undef, undef, undef]).toArray, []⟩) (by kernel_rfl) ?_
              refine wp_seq ?_
              refine wp_block ?_
              refine wp_seq ?_
              refine lwp_list ?_
              refine ls_move (x := x21) (by kernel_rfl) (by kernel_rfl) ?_
              refine ls_d (d := some 86) (by kernel_rfl) (by kernel_rfl) HA_22 (d_call (by kernel_rfl) (by kernel_rfl) H) (fun x86 h_23 w_23 H HA_23 => ?_)
              refine ls_move (x := x86) (by kernel_rfl) (by kernel_rfl) ?_
              refine ls_p (d := some 87) (by kernel_rfl) (by kernel_rfl) (p_tup (by kernel_rfl) H) (fun x87 H => ?_)
              refine ls_p (d := some 88) (by kernel_rfl) (by kernel_rfl) (p_tup (by kernel_rfl) H) (fun x88 H => ?_)
              refine ls_assign (x := x87) (by kernel_rfl) (by kernel_rfl) ?_
              refine ls_fr (b := ⟨([x0, undef, (D_2 0), x21, x4, x5, x6, (D 1), (D 2), x9, x87, (D_2 2), undef, undef, undef, undef, x0, x17, x18, undef, x20, x21, x21, x23, x6, x0, x26, x27, (D 7), (D 8), (D 9), (D 10), (D 11), (D 12), (D 13), (D 14), (D 15), (D 16), (D 17), (D 18), (D 19), (D 20), (D 21), (D 22), (D 23), (D 24), (D 25), (D 26), (D 27), (D 28)] ++ [(D 29), (D 30), (D 31), (D 32), (D 33), (D 34), (D 35), (D 36), (D 37), (D 38), (D 39), (D 40), (D 41), (D 42), (D 43), (D 44), (D 45), (D 46), (D 47), (D 48), (D 49), (D 50), (D 51), (D 52), (D 53), (D 54), (D 55), (D 56), x9, x4, x80, x81, (D_2 7), (D_2 8), x86, x21, x86, x87, x88, (D_2 14), (D_2 15), (D_2 16), (D_2 17), (D_2 18), (D_2 19), (D_2 20), (D_2 21), (D_2 22), (D_2 23), (D_2 24)] ++ [undef, undef, undef, undef, undef, undef, undef, undef, undef, undef, undef, undef, undef, undef, undef, undef, undef, undef, undef, undef, undef, undef, undef, undef, undef, undef, undef, undef]).toArray, []⟩) (by kernel_rfl) ?_
              refine ls_assign (x := x88) (by kernel_rfl) (by kernel_rfl) ?_
              refine ls_nil ?_
              refine then_normal ?_
              refine fr_eq (b := ⟨([x0, undef, (D_2 0), x21, x4, x5, x6, (D 1), (D 2), x9, x87, x88, undef, undef, undef, undef, x0, x17, x18, undef, x20, x21, x21, x23, x6, x0, x26, x27, (D 7), (D 8), (D 9), (D 10), (D 11), (D 12), (D 13), (D 14), (D 15), (D 16), (D 17), (D 18), (D 19), (D 20), (D 21), (D 22), (D 23), (D 24), (D 25), (D 26), (D 27), (D 28)] ++ [(D 29), (D 30), (D 31), (D 32), (D 33), (D 34), (D 35), (D 36), (D 37), (D 38), (D 39), (D 40), (D 41), (D 42), (D 43), (D 44), (D 45), (D 46), (D 47), (D 48), (D 49), (D 50), (D 51), (D 52), (D 53), (D 54), (D 55), (D 56), x9, x4, x80, x81, (D_2 7), (D_2 8), x86, x21, x86, x87, x88, (D_2 14), (D_2 15), (D_2 16), (D_2 17), (D_2 18), (D_2 19), (D_2 20), (D_2 21), (D_2 22), (D_2 23), (D_2 24)] ++ [undef, undef, undef, undef, undef, undef, undef, undef, undef, undef, undef, undef, undef, undef, undef, undef, undef, undef, undef, undef, undef, undef, undef, undef, undef, undef, undef, undef]).toArray, []⟩) (by kernel_rfl) ?_
              refine wp_seq ?_
              refine lwp_list ?_
              refine ls_move (x := x88) (by kernel_rfl) (by kernel_rfl) ?_
              refine ls_p (d := some 90) (by kernel_rfl) (by kernel_rfl) (p_sNe (by kernel_rfl) (by kernel_rfl) H) (fun x90 H => ?_)
              refine ls_move (x := x90) (by kernel_rfl) (by kernel_rfl) ?_
              refine ls_orh [(), (), (), (), (), (), (), ()] (fun K a w => ∃ (D_3 : Nat → Value) (x99 : Value) (h_24 : Heap), a = ⟨([x0, undef, (D_2 0), x21, x4, x5, x6, (D 1), (D 2), x9, x87, x88, undef, undef, undef, undef, x0, x17, x18, undef, x20, x21, x21, x23, x6, x0, x26, x27, (D 7), (D 8), (D 9), (D 10), (D 11), (D 12), (D 13), (D 14), (D 15), (D 16), (D 17), (D 18), (D 19), (D 20), (D 21), (D 22), (D 23), (D 24), (D 25), (D 26), (D 27), (D 28)] ++ [(D 29), (D 30), (D 31), (D 32), (D 33), (D 34), (D 35), (D 36), (D 37), (D 38), (D 39), (D 40), (D 41), (D 42), (D 43), (D 44), (D 45), (D 46), (D 47), (D 48), (D 49), (D 50), (D 51), (D 52), (D 53), (D 54), (D 55), (D 56), x9, x4, x80, x81, (D_2 7), (D_2 8), x86, x21, x86, x87, x88, x88, x90, x90, (D_3 0), (D_3 1), (D_3 2), (D_3 3), (D_3 4), (D_3 5), (D_3 6), x99] ++ [undef, undef, undef, undef, undef, undef, undef, undef, undef, undef, undef, undef, undef, undef, undef, undef, undef, undef, undef, undef, undef, undef, undef, undef, undef, undef, undef, undef]).toArray, []⟩ ∧ At w0 w h_24 ∧ K x99 h_24) H (fun hb H => ?_) (fun hb H => ?_) ?_
              · refine ls_move (x := x87) (by rw [hb]; kernel_rfl) (by kernel_rfl) ?_
                refine ls_move (x := x4) (by rw [hb]; kernel_rfl) (by kernel_rfl) ?_
                refine ls_move (x := x9) (by rw [hb]; kernel_rfl) (by kernel_rfl) ?_
                refine ls_fr (b := ⟨([x0, undef, (D_2 0), x21, x4, x5, x6, (D 1), (D 2), x9, x87, x88, undef, undef, undef, undef, x0, x17, x18, undef, x20, x21, x21, x23, x6, x0, x26, x27, (D 7), (D 8), (D 9), (D 10), (D 11), (D 12), (D 13), (D 14), (D 15), (D 16), (D 17), (D 18), (D 19), (D 20), (D 21), (D 22), (D 23), (D 24), (D 25), (D 26), (D 27), (D 28)] ++ [(D 29), (D 30), (D 31), (D 32), (D 33), (D 34), (D 35), (D 36), (D 37), (D 38), (D 39), (D 40), (D 41), (D 42), (D 43), (D 44), (D 45), (D 46), (D 47), (D 48), (D 49), (D 50), (D 51), (D 52), (D 53), (D 54), (D 55), (D 56), x9, x4, x80, x81, (D_2 7), (D_2 8), x86, x21, x86, x87, x88, x88, x90, x90, x87, x4, x9, (D_2 20), (D_2 21), (D_2 22), (D_2 23), (D_2 24)] ++ [undef, undef, undef, undef, undef, undef, undef, undef, undef, undef, undef, undef, undef, undef, undef, undef, undef, undef, undef, undef, undef, undef, undef, undef, undef, undef, undef, undef]).toArray, []⟩) (by kernel_rfl) ?_
                refine ls_p (d := some 95) (by kernel_rfl) (by rw [hb]; kernel_rfl) (p_ixs Try.underlying22 Try.sizeOf30 (by kernel_rfl) (by kernel_rfl) H) (fun x95 H => ?_)
                refine ls_y (d := some 96) (by kernel_rfl) (by rw [hb]; kernel_rfl) HA_23 (y_ld Try.isAgg30 (by kernel_rfl) H) (fun x96 H => ?_)
                refine ls_d (d := some 97) (by kernel_rfl) (by rw [hb]; kernel_rfl) HA_23 (d_call (by kernel_rfl) (by kernel_rfl) H) (fun x97 h_25 w_25 H HA_25 => ?_)
                refine ls_p (d := some 98) (by kernel_rfl) (by rw [hb]; kernel_rfl) (p_not (by kernel_rfl) H) (fun x98 H => ?_)
                refine ls_pick_f (y := x98) (by kernel_rfl) (by rw [hb]; kernel_rfl) (by kernel_rfl) ?_
                refine ls_nil ?_
                refine then_normal ?_
                exact ⟨(fun i => ([x87, x4, x9, x95, x96, x97, x98]).getD i undef), x98, h_25, by kernel_rfl, HA_25, H⟩
              · refine ls_skip (d := some 92) (by kernel_rfl) (by rw [hb]; kernel_rfl) ?_
                refine ls_skip (d := some 93) (by kernel_rfl) (by rw [hb]; kernel_rfl) ?_
                refine ls_skip (d := some 94) (by kernel_rfl) (by rw [hb]; kernel_rfl) ?_
                refine ls_fr (b := ⟨([x0, undef, (D_2 0), x21, x4, x5, x6, (D 1), (D 2), x9, x87, x88, undef, undef, undef, undef, x0, x17, x18, undef, x20, x21, x21, x23, x6, x0, x26, x27, (D 7), (D 8), (D 9), (D 10), (D 11), (D 12), (D 13), (D 14), (D 15), (D 16), (D 17), (D 18), (D 19), (D 20), (D 21), (D 22), (D 23), (D 24), (D 25), (D 26), (D 27), (D 28)] ++ [(D 29), (D 30), (D 31), (D 32), (D 33), (D 34), (D 35), (D 36), (D 37), (D 38), (D 39), (D 40), (D 41), (D 42), (D 43), (D 44), (D 45), (D 46), (D 47), (D 48), (D 49), (D 50), (D 51), (D 52), (D 53), (D 54), (D 55), (D 56), x9, x4, x80, x81, (D_2 7), (D_2 8), x86, x21, x86, x87, x88, x88, x90, x90, undef, undef, undef, (D_2 20), (D_2 21), (D_2 22), (D_2 23), (D_2 24)] ++ [undef, undef, undef, undef, undef, undef, undef, undef, undef, undef, undef, undef, undef, undef, undef, undef, undef, undef, undef, undef, undef, undef, undef, undef, undef, undef, undef, undef]).toArray, []⟩) (by kernel_rfl) ?_
                refine ls_skip (d := some 95) (by kernel_rfl) (by rw [hb]; kernel_rfl) ?_
                refine ls_skip (d := some 96) (by kernel_rfl) (by rw [hb]; kernel_rfl) ?_
                refine ls_skip (d := some 97) (by kernel_rfl) (by rw [hb]; kernel_rfl) ?_
                refine ls_skip (d := some 98) (by kernel_rfl) (by rw [hb]; kernel_rfl) ?_
                refine ls_pick_t (x := (.bool true)) (by kernel_rfl) (by rw [hb]; kernel_rfl) (by kernel_rfl) ?_
                refine ls_nil ?_
                refine then_normal ?_
                exact ⟨(fun i => ([undef, undef, undef, undef, undef, undef, undef]).getD i undef), (.bool true), h_23, by kernel_rfl, HA_23, H⟩
              · rintro _ w_24 ⟨D_3, x99, h_24, rfl, HA_24, H⟩
                refine ls_nil ?_
                refine then_normal ?_
                refine fr_eq (b := ⟨([x0, undef, (D_2 0), x21, x4, x5, x6, (D 1), (D 2), x9, x87, x88, undef, undef, undef, undef, x0, x17, x18, undef, x20, x21, x21, x23, x6, x0, x26, x27, (D 7), (D 8), (D 9), (D 10), (D 11), (D 12), (D 13), (D 14), (D 15), (D 16), (D 17), (D 18), (D 19), (D 20), (D 21), (D 22), (D 23), (D 24), (D 25), (D 26), (D 27), (D 28)] ++ [(D 29), (D 30), (D 31), (D 32), (D 33), (D 34), (D 35), (D 36), (D 37), (D 38), (D 39), (D 40), (D 41), (D 42), (D 43), (D 44), (D 45), (D 46), (D 47), (D 48), (D 49), (D 50), (D 51), (D 52), (D 53), (D 54), (D 55), (D 56), x9, x4, x80, x81, (D_2 7), (D_2 8), x86, x21, x86, x87, x88, x88, x90, x90, (D_3 0), (D_3 1), (D_3 2), (D_3 3), (D_3 4), (D_3 5), (D_3 6), x99] ++ [undef, undef, undef, undef, undef, undef, undef, undef, undef, undef, undef, undef, undef, undef, undef, undef, undef, undef, undef, undef, undef, undef, undef, undef, undef, undef, undef, undef]).toArray, []⟩) (by kernel_rfl) ?_
                refine wp_if rfl H (fun H => ?_) (fun H => ?_)
                · refine wp_seq ?_
                  refine lwp_list ?_
                  refine ls_assign (x := (.bool false)) (by kernel_rfl) (by kernel_rfl) ?_
                  refine ls_nil ?_
                  refine then_normal ?_
                  refine fr_eq (b := ⟨([x0, undef, (.bool false), x21, x4, x5, x6, (D 1), (D 2), x9, x87, x88, undef, undef, undef, undef, x0, x17, x18, undef, x20, x21, x21, x23, x6, x0, x26, x27, (D 7), (D 8), (D 9), (D 10), (D 11), (D 12), (D 13), (D 14), (D 15), (D 16), (D 17), (D 18), (D 19), (D 20), (D 21), (D 22), (D 23), (D 24), (D 25), (D 26), (D 27), (D 28)] ++ [(D 29), (D 30), (D 31), (D 32), (D 33), (D 34), (D 35), (D 36), (D 37), (D 38), (D 39), (D 40), (D 41), (D 42), (D 43), (D 44), (D 45), (D 46), (D 47), (D 48), (D 49), (D 50), (D 51), (D 52), (D 53), (D 54), (D 55), (D 56), x9, x4, x80, x81, (D_2 7), (D_2 8), x86, x21, x86, x87, x88, x88, x90, x90, (D_3 0), (D_3 1), (D_3 2), (D_3 3), (D_3 4), (D_3 5), (D_3 6), x99] ++ [undef, undef, undef, undef, undef, undef, undef, undef, undef, undef, undef, undef, undef, undef, undef, undef, undef, undef, undef, undef, undef, undef, undef, undef, undef, undef, undef, undef]).toArray, []⟩) (by kernel_rfl) ?_
                  refine wp_ret ?_
                  refine block_ret ?_
                  refine then_ret ?_
                  refine then_ret ?_
                  refine block_ret ?_
                  refine then_ret ?_
                  exact end1 (Try.results9) (by kernel_rfl) (by kernel_rfl) HA_24 H _ (.inr rfl)
                · refine wp_skip ?_
                  refine block_normal ?_
                  refine then_normal ?_
                  refine fr_eq (b := ⟨([x0, undef, (D_2 0), x21, x4, x5, x6, (D 1), (D 2), x9, x87, x88, undef, undef, undef, undef, x0, x17, x18, undef, x20, x21, x21, x23, x6, x0, x26, x27, (D 7), (D 8), (D 9), (D 10), (D 11), (D 12), (D 13), (D 14), (D 15), (D 16), (D 17), (D 18), (D 19), (D 20), (D 21), (D 22), (D 23), (D 24), (D 25), (D 26), (D 27), (D 28)] ++ [(D 29), (D 30), (D 31), (D 32), (D 33), (D 34), (D 35), (D 36), (D 37), (D 38), (D 39), (D 40), (D 41), (D 42), (D 43), (D 44), (D 45), (D 46), (D 47), (D 48), (D 49), (D 50), (D 51), (D 52), (D 53), (D 54), (D 55), (D 56), x9, x4, x80, x81, (D_2 7), (D_2 8), x86, x21, x86, x87, x88, x88, x90, x90, (D_3 0), (D_3 1), (D_3 2), (D_3 3), (D_3 4), (D_3 5), (D_3 6), x99] ++ [undef, undef, undef, undef, undef, undef, undef, undef, undef, undef, undef, undef, undef, undef, undef, undef, undef, undef, undef, undef, undef, undef, undef, undef, undef, undef, undef, undef]).toArray, []⟩) (by kernel_rfl) ?_
                  refine lwp_list ?_
                  refine ls_move (x := x9) (by kernel_rfl) (by kernel_rfl) ?_
                  refine ls_p (d := some 83) (by kernel_rfl) (by kernel_rfl) (p_add (by kernel_rfl) (by kernel_rfl) H) (fun x83 H => ?_)
                  refine ls_assign (x := x83) (by kernel_rfl) (by kernel_rfl) ?_
                  refine ls_nil ?_
                  exact ⟨⟨(fun i => ([(D_2 0), x87, x88, x9, x4, x80, x81, x9, x83, x86, x21, x86, x87, x88, x88, x90, x90, (D_3 0), (D_3 1), (D_3 2), (D_3 3), (D_3 4), (D_3 5), (D_3 6), x99]).getD i undef), x83, h_24, by kernel_rfl, HA_24, H.1⟩, loop_lt HA_24.heap HA_22.heap (by kernel_rfl) (by kernel_rfl) H.2⟩
            · refine wp_exit ?_
              refine then_exit ?_
              refine then_exit ?_
              refine block_exit ?_
              refine then_normal ?_
              refine fr_eq (b := ⟨([x0, undef, (D_2 0), x21, x4, x5, x6, (D 1), (D 2), x9, (D_2 1), (D_2 2), undef, undef, undef, undef, x0, x17, x18, undef, x20, x21, x21, x23, x6, x0, x26, x27, (D 7), (D 8), (D 9), (D 10), (D 11), (D 12), (D 13), (D 14), (D 15), (D 16), (D 17), (D 18), (D 19), (D 20), (D 21), (D 22), (D 23), (D 24), (D 25), (D 26), (D 27), (D 28)] ++ [(D 29), (D 30), (D 31), (D 32), (D 33), (D 34), (D 35), (D 36), (D 37), (D 38), (D 39), (D 40), (D 41), (D 42), (D 43), (D 44), (D 45), (D 46), (D 47), (D 48), (D 49), (D 50), (D 51), (D 52), (D 53), (D 54), (D 55), (D 56), x9, x4, x80, x81, (D_2 7), (D_2 8), (D_2 9), (D_2 10), (D_2 11), (D_2 12), (D_2 13), (D_2 14), (D_2 15), (D_2 16), (D_2 17), (D_2 18), (D_2 19), (D_2 20), (D_2 21), (D_2 22), (D_2 23), (D_2 24)] ++ [undef, undef, undef, undef, undef, undef, undef, undef, undef, undef, undef, undef, undef, undef, undef, undef, undef, undef, undef, undef, undef, undef, undef, undef, undef, undef, undef, undef]).toArray, []⟩) (by kernel_rfl) ?_
              refine wp_seq ?_
              refine wp_seq ?_
              refine lwp_list ?_
              refine ls_move (x := x5) (by kernel_rfl) (by kernel_rfl) ?_
              refine ls_p (d := some 101) (by kernel_rfl) (by kernel_rfl) (p_len Try.underlying30 (by kernel_rfl) H) (fun x101 H => ?_)
              refine ls_p (d := some 102) (by kernel_rfl) (by kernel_rfl) (p_sEq (by kernel_rfl) (by kernel_rfl) H) (fun x102 H => ?_)
              refine ls_nil ?_
              refine then_normal ?_
              refine fr_eq (b := ⟨([x0, undef, (D_2 0), x21, x4, x5, x6, (D 1), (D 2), x9, (D_2 1), (D_2 2), undef, undef, undef, undef, x0, x17, x18, undef, x20, x21, x21, x23, x6, x0, x26, x27, (D 7), (D 8), (D 9), (D 10), (D 11), (D 12), (D 13), (D 14), (D 15), (D 16), (D 17), (D 18), (D 19), (D 20), (D 21), (D 22), (D 23), (D 24), (D 25), (D 26), (D 27), (D 28)] ++ [(D 29), (D 30), (D 31), (D 32), (D 33), (D 34), (D 35), (D 36), (D 37), (D 38), (D 39), (D 40), (D 41), (D 42), (D 43), (D 44), (D 45), (D 46), (D 47), (D 48), (D 49), (D 50), (D 51), (D 52), (D 53), (D 54), (D 55), (D 56), x9, x4, x80, x81, (D_2 7), (D_2 8), (D_2 9), (D_2 10), (D_2 11), (D_2 12), (D_2 13), (D_2 14), (D_2 15), (D_2 16), (D_2 17), (D_2 18), (D_2 19), (D_2 20), (D_2 21), (D_2 22), (D_2 23), (D_2 24)] ++ [x5, x101, x102, undef, undef, undef, undef, undef, undef, undef, undef, undef, undef, undef, undef, undef, undef, undef, undef, undef, undef, undef, undef, undef, undef, undef, undef, undef]).toArray, []⟩) (by kernel_rfl) ?_
              refine wp_if rfl H (fun H => ?_) (fun H => ?_)
              · refine wp_seq ?_
                refine lwp_list ?_
                refine ls_d (d := some 103) (by kernel_rfl) (by kernel_rfl) HA_22 (d_call (by kernel_rfl) (by kernel_rfl) H) (fun x103 h_26 w_26 H HA_26 => ?_)
                refine ls_assign (x := x103) (by kernel_rfl) (by kernel_rfl) ?_
                refine ls_nil ?_
                refine then_normal ?_
                refine fr_eq (b := ⟨([x0, undef, x103, x21, x4, x5, x6, (D 1), (D 2), x9, (D_2 1), (D_2 2), undef, undef, undef, undef, x0, x17, x18, undef, x20, x21, x21, x23, x6, x0, x26, x27, (D 7), (D 8), (D 9), (D 10), (D 11), (D 12), (D 13), (D 14), (D 15), (D 16), (D 17), (D 18), (D 19), (D 20), (D 21), (D 22), (D 23), (D 24), (D 25), (D 26), (D 27), (D 28)] ++ [(D 29), (D 30), (D 31), (D 32), (D 33), (D 34), (D 35), (D 36), (D 37), (D 38), (D 39), (D 40), (D 41), (D 42), (D 43), (D 44), (D 45), (D 46), (D 47), (D 48), (D 49), (D 50), (D 51), (D 52), (D 53), (D 54), (D 55), (D 56), x9, x4, x80, x81, (D_2 7), (D_2 8), (D_2 9), (D_2 10), (D_2 11), (D_2 12), (D_2 13), (D_2 14), (D_2 15), (D_2 16), (D_2 17), (D_2 18), (D_2 19), (D_2 20), (D_2 21), (D_2 22), (D_2 23), (D_2 24)] ++ [x5, x101, x102, x103, undef, undef, undef, undef, undef, undef, undef, undef, undef, undef, undef, undef, undef, undef, undef, undef, undef, undef, undef, undef, undef, undef, undef, undef]).toArray, []⟩) (by kernel_rfl) ?_
                refine wp_ret ?_
                refine then_ret ?_
                exact end1 (Try.results9) (by kernel_rfl) (by kernel_rfl) HA_26 H _ (.inr rfl)
              · refine wp_skip ?_
                refine then_normal ?_
                refine fr_eq (b := ⟨([x0, undef, (D_2 0), x21, x4, x5, x6, (D 1), (D 2), x9, (D_2 1), (D_2 2), undef, undef, undef, undef, x0, x17, x18, undef, x20, x21, x21, x23, x6, x0, x26, x27, (D 7), (D 8), (D 9), (D 10), (D 11), (D 12), (D 13), (D 14), (D 15), (D 16), (D 17), (D 18), (D 19), (D 20), (D 21), (D 22), (D 23), (D 24), (D 25), (D 26), (D 27), (D 28)] ++ [(D 29), (D 30), (D 31), (D 32), (D 33), (D 34), (D 35), (D 36), (D 37), (D 38), (D 39), (D 40), (D 41), (D 42), (D 43), (D 44), (D 45), (D 46), (D 47), (D 48), (D 49), (D 50), (D 51), (D 52), (D 53), (D 54), (D 55), (D 56), x9, x4, x80, x81, (D_2 7), (D_2 8), (D_2 9), (D_2 10), (D_2 11), (D_2 12), (D_2 13), (D_2 14), (D_2 15), (D_2 16), (D_2 17), (D_2 18), (D_2 19), (D_2 20), (D_2 21), (D_2 22), (D_2 23), (D_2 24)] ++ [x5, x101, x102, undef, undef, undef, undef, undef, undef, undef, undef, undef, undef, undef, undef, undef, undef, undef, undef, undef, undef, undef, undef, undef, undef, undef, undef, undef]).toArray, []⟩) (by kernel_rfl) ?_
                refine wp_seq ?_
                refine lwp_list ?_
                refine ls_move (x := x21) (by kernel_rfl) (by kernel_rfl) ?_
                refine ls_d (d := some 106) (by kernel_rfl) (by kernel_rfl) HA_22 (d_call (by kernel_rfl) (by kernel_rfl) H) (fun x106 h_27 w_27 H HA_27 => ?_)
                refine ls_move (x := x106) (by kernel_rfl) (by kernel_rfl) ?_
                refine ls_p (d := some 107) (by kernel_rfl) (by kernel_rfl) (p_tup (by kernel_rfl) H) (fun x107 H => ?_)
                refine ls_p (d := some 108) (by kernel_rfl) (by kernel_rfl) (p_tup (by kernel_rfl) H) (fun x108 H => ?_)
                refine ls_assign (x := x107) (by kernel_rfl) (by kernel_rfl) ?_
                refine ls_fr (b := ⟨([x0, undef, (D_2 0), x21, x4, x5, x6, (D 1), (D 2), x9, (D_2 1), (D_2 2), x107, undef, undef, undef, x0, x17, x18, undef, x20, x21, x21, x23, x6, x0, x26, x27, (D 7), (D 8), (D 9), (D 10), (D 11), (D 12), (D 13), (D 14), (D 15), (D 16), (D 17), (D 18), (D 19), (D 20), (D 21), (D 22), (D 23), (D 24), (D 25), (D 26), (D 27), (D 28)] ++ [(D 29), (D 30), (D 31), (D 32), (D 33), (D 34), (D 35), (D 36), (D 37), (D 38), (D 39), (D 40), (D 41), (D 42), (D 43), (D 44), (D 45), (D 46), (D 47), (D 48), (D 49), (D 50), (D 51), (D 52), (D 53), (D 54), (D 55), (D 56), x9, x4, x80, x81, (D_2 7), (D_2 8), (D_2 9), (D_2 10), (D_2 11), (D_2 12), (D_2 13), (D_2 14), (D_2 15), (D_2 16), (D_2 17), (D_2 18), (D_2 19), (D_2 20), (D_2 21), (D_2 22), (D_2 23), (D_2 24)] ++ [x5, x101, x102, undef, x106, x21, x106, x107, x108, undef, undef, undef, undef, undef, undef, undef, undef, undef, undef, undef, undef, undef, undef, undef, undef, undef, undef, undef]).toArray, []⟩) (by kernel_rfl) ?_
                refine ls_assign (x := x108) (by kernel_rfl) (by kernel_rfl) ?_
                refine ls_nil ?_
                refine then_normal ?_
                refine fr_eq (b := ⟨([x0, undef, (D_2 0), x21, x4, x5, x6, (D 1), (D 2), x9, (D_2 1), (D_2 2), x107, x108, undef, undef, x0, x17, x18, undef, x20, x21, x21, x23, x6, x0, x26, x27, (D 7), (D 8), (D 9), (D 10), (D 11), (D 12), (D 13), (D 14), (D 15), (D 16), (D 17), (D 18), (D 19), (D 20), (D 21), (D 22), (D 23), (D 24), (D 25), (D 26), (D 27), (D 28)] ++ [(D 29), (D 30), (D 31), (D 32), (D 33), (D 34), (D 35), (D 36), (D 37), (D 38), (D 39), (D 40), (D 41), (D 42), (D 43), (D 44), (D 45), (D 46), (D 47), (D 48), (D 49), (D 50), (D 51), (D 52), (D 53), (D 54), (D 55), (D 56), x9, x4, x80, x81, (D_2 7), (D_2 8), (D_2 9), (D_2 10), (D_2 11), (D_2 12), (D_2 13), (D_2 14), (D_2 15), (D_2 16), (D_2 17), (D_2 18), (D_2 19), (D_2 20), (D_2 21), (D_2 22), (D_2 23), (D_2 24)] ++ [x5, x101, x102, undef, x106, x21, x106, x107, x108, undef, undef, undef, undef, undef, undef, undef, undef, undef, undef, undef, undef, undef, undef, undef, undef, undef, undef, undef]).toArray, []⟩) (by kernel_rfl) ?_
                refine wp_seq ?_
                refine lwp_list ?_
                refine ls_move (x := x21) (by kernel_rfl) (by kernel_rfl) ?_
                refine ls_d (d := some 111) (by kernel_rfl) (by kernel_rfl) HA_27 (d_call (by kernel_rfl) (by kernel_rfl) H) (fun x111 h_28 w_28 H HA_28 => ?_)
                refine ls_move (x := x111) (by kernel_rfl) (by kernel_rfl) ?_
                refine ls_p (d := some 112) (by kernel_rfl) (by kernel_rfl) (p_tup (by kernel_rfl) H) (fun x112 H => ?_)
                refine ls_p (d := some 113) (by kernel_rfl) (by kernel_rfl) (p_tup (by kernel_rfl) H) (fun x113 H => ?_)
                refine ls_assign (x := x112) (by kernel_rfl) (by kernel_rfl) ?_
                refine ls_fr (b := ⟨([x0, undef, (D_2 0), x21, x4, x5, x6, (D 1), (D 2), x9, (D_2 1), (D_2 2), x107, x108, x112, undef, x0, x17, x18, undef, x20, x21, x21, x23, x6, x0, x26, x27, (D 7), (D 8), (D 9), (D 10), (D 11), (D 12), (D 13), (D 14), (D 15), (D 16), (D 17), (D 18), (D 19), (D 20), (D 21), (D 22), (D 23), (D 24), (D 25), (D 26), (D 27), (D 28)] ++ [(D 29), (D 30), (D 31), (D 32), (D 33), (D 34), (D 35), (D 36), (D 37), (D 38), (D 39), (D 40), (D 41), (D 42), (D 43), (D 44), (D 45), (D 46), (D 47), (D 48), (D 49), (D 50), (D 51), (D 52), (D 53), (D 54), (D 55), (D 56), x9, x4, x80, x81, (D_2 7), (D_2 8), (D_2 9), (D_2 10), (D_2 11), (D_2 12), (D_2 13), (D_2 14), (D_2 15), (D_2 16), (D_2 17), (D_2 18), (D_2 19), (D_2 20), (D_2 21), (D_2 22), (D_2 23), (D_2 24)] ++ [x5, x101, x102, undef, x106, x21, x106, x107, x108, x111, x21, x111, x112, x113, undef, undef, undef, undef, undef, undef, undef, undef, undef, undef, undef, undef, undef, undef]).toArray, []⟩) (by kernel_rfl) ?_
                refine ls_assign (x := x113) (by kernel_rfl) (by kernel_rfl) ?_
                refine ls_nil ?_
                refine then_normal ?_
                refine fr_eq (b := ⟨([x0, undef, (D_2 0), x21, x4, x5, x6, (D 1), (D 2), x9, (D_2 1), (D_2 2), x107, x108, x112, x113, x0, x17, x18, undef, x20, x21, x21, x23, x6, x0, x26, x27, (D 7), (D 8), (D 9), (D 10), (D 11), (D 12), (D 13), (D 14), (D 15), (D 16), (D 17), (D 18), (D 19), (D 20), (D 21), (D 22), (D 23), (D 24), (D 25), (D 26), (D 27), (D 28)] ++ [(D 29), (D 30), (D 31), (D 32), (D 33), (D 34), (D 35), (D 36), (D 37), (D 38), (D 39), (D 40), (D 41), (D 42), (D 43), (D 44), (D 45), (D 46), (D 47), (D 48), (D 49), (D 50), (D 51), (D 52), (D 53), (D 54), (D 55), (D 56), x9, x4, x80, x81, (D_2 7), (D_2 8), (D_2 9), (D_2 10), (D_2 11), (D_2 12), (D_2 13), (D_2 14), (D_2 15), (D_2 16), (D_2 17), (D_2 18), (D_2 19), (D_2 20), (D_2 21), (D_2 22), (D_2 23), (D_2 24)] ++ [x5, x101, x102, undef, x106, x21, x106, x107, x108, x111, x21, x111, x112, x113, undef, undef, undef, undef, undef, undef, undef, undef, undef, undef, undef, undef, undef, undef]).toArray, []⟩) (by kernel_rfl) ?_
                refine wp_seq ?_
                refine lwp_list ?_
                refine ls_move (x := x108) (by kernel_rfl) (by kernel_rfl) ?_
                refine ls_p (d := some 115) (by kernel_rfl) (by kernel_rfl) (p_sEq (by kernel_rfl) (by kernel_rfl) H) (fun x115 H => ?_)
                refine ls_move (x := x115) (by kernel_rfl) (by kernel_rfl) ?_
                refine ls_andh [(), (), (), ()] (fun K a w => ∃ (D_4 : Nat → Value) (x120 : Value) (h_29 : Heap), a = ⟨([x0, undef, (D_2 0), x21, x4, x5, x6, (D 1), (D 2), x9, (D_2 1), (D_2 2), x107, x108, x112, x113, x0, x17, x18, undef, x20, x21, x21, x23, x6, x0, x26, x27, (D 7), (D 8), (D 9), (D 10), (D 11), (D 12), (D 13), (D 14), (D 15), (D 16), (D 17), (D 18), (D 19), (D 20), (D 21), (D 22), (D 23), (D 24), (D 25), (D 26), (D 27), (D 28)] ++ [(D 29), (D 30), (D 31), (D 32), (D 33), (D 34), (D 35), (D 36), (D 37), (D 38), (D 39), (D 40), (D 41), (D 42), (D 43), (D 44), (D 45), (D 46), (D 47), (D 48), (D 49), (D 50), (D 51), (D 52), (D 53), (D 54), (D 55), (D 56), x9, x4, x80, x81, (D_2 7), (D_2 8), (D_2 9), (D_2 10), (D_2 11), (D_2 12), (D_2 13), (D_2 14), (D_2 15), (D_2 16), (D_2 17), (D_2 18), (D_2 19), (D_2 20), (D_2 21), (D_2 22), (D_2 23), (D_2 24)] ++ [x5, x101, x102, undef, x106, x21, x106, x107, x108, x111, x21, x111, x112, x113, x108, x115, x115, (D_4 0), (D_4 1), (D_4 2), x120, undef, undef, undef, undef, undef, undef, undef]).toArray, []⟩ ∧ At w0 w h_29 ∧ K x120 h_29) H (fun hb_3 H => ?_) (fun hb_3 H => ?_) ?_
                · refine ls_move (x := x107) (by rw [hb_3]; kernel_rfl) (by kernel_rfl) ?_
                  refine ls_move (x := x5) (by rw [hb_3]; kernel_rfl) (by kernel_rfl) ?_
                  refine ls_d (d := some 119) (by kernel_rfl) (by rw [hb_3]; kernel_rfl) HA_28 (d_call (by kernel_rfl) (by kernel_rfl) H) (fun x119 h_32 w_33 H HA_33 => ?_)
                  refine ls_fr (b := ⟨([x0, undef, (D_2 0), x21, x4, x5, x6, (D 1), (D 2), x9, (D_2 1), (D_2 2), x107, x108, x112, x113, x0, x17, x18, undef, x20, x21, x21, x23, x6, x0, x26, x27, (D 7), (D 8), (D 9), (D 10), (D 11), (D 12), (D 13), (D 14), (D 15), (D 16), (D 17), (D 18), (D 19), (D 20), (D 21), (D 22), (D 23), (D 24), (D 25), (D 26), (D 27), (D 28)] ++ [(D 29), (D 30), (D 31), (D 32), (D 33), (D 34), (D 35), (D 36), (D 37), (D 38), (D 39), (D 40), (D 41), (D 42), (D 43), (D 44), (D 45), (D 46), (D 47), (D 48), (D 49), (D 50), (D 51), (D 52), (D 53), (D 54), (D 55), (D 56), x9, x4, x80, x81, (D_2 7), (D_2 8), (D_2 9), (D_2 10), (D_2 11), (D_2 12), (D_2 13), (D_2 14), (D_2 15), (D_2 16), (D_2 17), (D_2 18), (D_2 19), (D_2 20), (D_2 21), (D_2 22), (D_2 23), (D_2 24)] ++ [x5, x101, x102, undef, x106, x21, x106, x107, x108, x111, x21, x111, x112, x113, x108, x115, x115, x107, x5, x119, undef, undef, undef, undef, undef, undef, undef, undef]).toArray, []⟩) (by kernel_rfl) ?_
                  refine ls_pick_t (x := x119) (by kernel_rfl) (by rw [hb_3]; kernel_rfl) (by kernel_rfl) ?_
                  refine ls_nil ?_
                  refine then_normal ?_
                  exact ⟨(fun i => ([x107, x5, x119]).getD i undef), x119, h_32, by kernel_rfl, HA_33, H⟩
                · refine ls_skip (d := some 117) (by kernel_rfl) (by rw [hb_3]; kernel_rfl) ?_
                  refine ls_skip (d := some 118) (by kernel_rfl) (by rw [hb_3]; kernel_rfl) ?_
                  refine ls_skip (d := some 119) (by kernel_rfl) (by rw [hb_3]; kernel_rfl) ?_
                  refine ls_fr (b := ⟨([x0, undef, (D_2 0), x21, x4, x5, x6, (D 1), (D 2), x9, (D_2 1), (D_2 2), x107, x108, x112, x113, x0, x17, x18, undef, x20, x21, x21, x23, x6, x0, x26, x27, (D 7), (D 8), (D 9), (D 10), (D 11), (D 12), (D 13), (D 14), (D 15), (D 16), (D 17), (D 18), (D 19), (D 20), (D 21), (D 22), (D 23), (D 24), (D 25), (D 26), (D 27), (D 28)] ++ [(D 29), (D 30), (D 31), (D 32), (D 33), (D 34), (D 35), (D 36), (D 37), (D 38), (D 39), (D 40), (D 41), (D 42), (D 43), (D 44), (D 45), (D 46), (D 47), (D 48), (D 49), (D 50), (D 51), (D 52), (D 53), (D 54), (D 55), (D 56), x9, x4, x80, x81, (D_2 7), (D_2 8), (D_2 9), (D_2 10), (D_2 11), (D_2 12), (D_2 13), (D_2 14), (D_2 15), (D_2 16), (D_2 17), (D_2 18), (D_2 19), (D_2 20), (D_2 21), (D_2 22), (D_2 23), (D_2 24)] ++ [x5, x101, x102, undef, x106, x21, x106, x107, x108, x111, x21, x111, x112, x113, x108, x115, x115, undef, undef, undef, undef, undef, undef, undef, undef, undef, undef, undef]).toArray, []⟩) (by kernel_rfl) ?_
                  refine ls_pick_f (y := (.bool false)) (by kernel_rfl) (by rw [hb_3]; kernel_rfl) (by kernel_rfl) ?_
                  refine ls_nil ?_
                  refine then_normal ?_
                  exact ⟨(fun i => ([undef, undef, undef]).getD i undef), (.bool false), h_28, by kernel_rfl, HA_28, H⟩
                · rintro _ w_29 ⟨D_4, x120, h_29, rfl, HA_29, H⟩
                  refine ls_move (x := x120) (by kernel_rfl) (by kernel_rfl) ?_
                  refine ls_and [(), (), ()] (fun K a w => ∃ (D_5 : Nat → Value) (x124 : Value), a = ⟨([x0, undef, (D_2 0), x21, x4, x5, x6, (D 1), (D 2), x9, (D_2 1), (D_2 2), x107, x108, x112, x113, x0, x17, x18, undef, x20, x21, x21, x23, x6, x0, x26, x27, (D 7), (D 8), (D 9), (D 10), (D 11), (D 12), (D 13), (D 14), (D 15), (D 16), (D 17), (D 18), (D 19), (D 20), (D 21), (D 22), (D 23), (D 24), (D 25), (D 26), (D 27), (D 28)] ++ [(D 29), (D 30), (D 31), (D 32), (D 33), (D 34), (D 35), (D 36), (D 37), (D 38), (D 39), (D 40), (D 41), (D 42), (D 43), (D 44), (D 45), (D 46), (D 47), (D 48), (D 49), (D 50), (D 51), (D 52), (D 53), (D 54), (D 55), (D 56), x9, x4, x80, x81, (D_2 7), (D_2 8), (D_2 9), (D_2 10), (D_2 11), (D_2 12), (D_2 13), (D_2 14), (D_2 15), (D_2 16), (D_2 17), (D_2 18), (D_2 19), (D_2 20), (D_2 21), (D_2 22), (D_2 23), (D_2 24)] ++ [x5, x101, x102, undef, x106, x21, x106, x107, x108, x111, x21, x111, x112, x113, x108, x115, x115, (D_4 0), (D_4 1), (D_4 2), x120, x120, (D_5 0), (D_5 1), x124, undef, undef, undef]).toArray, []⟩ ∧ At w0 w h_29 ∧ K x124) H (fun hb_2 H => ?_) (fun hb_2 H => ?_) ?_
                  · refine ls_move (x := x113) (by rw [hb_2]; kernel_rfl) (by kernel_rfl) ?_
                    refine ls_p (d := some 123) (by kernel_rfl) (by rw [hb_2]; kernel_rfl) (p_sEq (by kernel_rfl) (by kernel_rfl) H) (fun x123 H => ?_)
                    refine ls_pick_t (x := x123) (by kernel_rfl) (by rw [hb_2]; kernel_rfl) (by kernel_rfl) ?_
                    refine ls_nil ?_
                    refine then_normal ?_
                    exact ⟨(fun i => ([x113, x123]).getD i undef), x123, by kernel_rfl, HA_29, H⟩
                  · refine ls_skip (d := some 122) (by kernel_rfl) (by rw [hb_2]; kernel_rfl) ?_
                    refine ls_skip (d := some 123) (by kernel_rfl) (by rw [hb_2]; kernel_rfl) ?_
                    refine ls_pick_f (y := (.bool false)) (by kernel_rfl) (by rw [hb_2]; kernel_rfl) (by kernel_rfl) ?_
                    refine ls_nil ?_
                    refine then_normal ?_
                    exact ⟨(fun i => ([undef, undef]).getD i undef), (.bool false), by kernel_rfl, HA_29, H⟩
                  · rintro _ w_30 ⟨D_5, x124, rfl, HA_30, H⟩
                    refine ls_move (x := x124) (by kernel_rfl) (by kernel_rfl) ?_
                    refine ls_andh [(), ()] (fun K a w => ∃ (D_6 : Nat → Value) (x127 : Value) (h_30 : Heap), a = ⟨([x0, undef, (D_2 0), x21, x4, x5, x6, (D 1), (D 2), x9, (D_2 1), (D_2 2), x107, x108, x112, x113, x0, x17, x18, undef, x20, x21, x21, x23, x6, x0, x26, x27, (D 7), (D 8), (D 9), (D 10), (D 11), (D 12), (D 13), (D 14), (D 15), (D 16), (D 17), (D 18), (D 19), (D 20), (D 21), (D 22), (D 23), (D 24), (D 25), (D 26), (D 27), (D 28)] ++ [(D 29), (D 30), (D 31), (D 32), (D 33), (D 34), (D 35), (D 36), (D 37), (D 38), (D 39), (D 40), (D 41), (D 42), (D 43), (D 44), (D 45), (D 46), (D 47), (D 48), (D 49), (D 50), (D 51), (D 52), (D 53), (D 54), (D 55), (D 56), x9, x4, x80, x81, (D_2 7), (D_2 8), (D_2 9), (D_2 10), (D_2 11), (D_2 12), (D_2 13), (D_2 14), (D_2 15), (D_2 16), (D_2 17), (D_2 18), (D_2 19), (D_2 20), (D_2 21), (D_2 22), (D_2 23), (D_2 24)] ++ [x5, x101, x102, undef, x106, x21, x106, x107, x108, x111, x21, x111, x112, x113, x108, x115, x115, (D_4 0), (D_4 1), (D_4 2), x120, x120, (D_5 0), (D_5 1), x124, x124, (D_6 0), x127]).toArray, []⟩ ∧ At w0 w h_30 ∧ K x127 h_30) H (fun hb_1 H => ?_) (fun hb_1 H => ?_) ?_
                    · refine ls_d (d := some 126) (by kernel_rfl) (by rw [hb_1]; kernel_rfl) HA_30 (d_call (by kernel_rfl) (by kernel_rfl) H) (fun x126 h_31 w_32 H HA_32 => ?_)
                      refine ls_pick_t (x := x126) (by kernel_rfl) (by rw [hb_1]; kernel_rfl) (by kernel_rfl) ?_
                      refine ls_nil ?_
                      refine then_normal ?_
                      exact ⟨(fun i => ([x126]).getD i undef), x126, h_31, by kernel_rfl, HA_32, H⟩
                    · refine ls_skip (d := some 126) (by kernel_rfl) (by rw [hb_1]; kernel_rfl) ?_
                      refine ls_pick_f (y := (.bool false)) (by kernel_rfl) (by rw [hb_1]; kernel_rfl) (by kernel_rfl) ?_
                      refine ls_nil ?_
                      refine then_normal ?_
                      exact ⟨(fun i => ([undef]).getD i undef), (.bool false), h_29, by kernel_rfl, HA_30, H⟩
                    · rintro _ w_31 ⟨D_6, x127, h_30, rfl, HA_31, H⟩
                      refine ls_assign (x := x127) (by kernel_rfl) (by kernel_rfl) ?_
                      refine ls_nil ?_
                      refine then_normal ?_
                      refine fr_eq (b := ⟨([x0, undef, x127, x21, x4, x5, x6, (D 1), (D 2), x9, (D_2 1), (D_2 2), x107, x108, x112, x113, x0, x17, x18, undef, x20, x21, x21, x23, x6, x0, x26, x27, (D 7), (D 8), (D 9), (D 10), (D 11), (D 12), (D 13), (D 14), (D 15), (D 16), (D 17), (D 18), (D 19), (D 20), (D 21), (D 22), (D 23), (D 24), (D 25), (D 26), (D 27), (D 28)] ++ [(D 29), (D 30), (D 31), (D 32), (D 33), (D 34), (D 35), (D 36), (D 37), (D 38), (D 39), (D 40), (D 41), (D 42), (D 43), (D 44), (D 45), (D 46), (D 47), (D 48), (D 49), (D 50), (D 51), (D 52), (D 53), (D 54), (D 55), (D 56), x9, x4, x80, x81, (D_2 7), (D_2 8), (D_2 9), (D_2 10), (D_2 11), (D_2 12), (D_2 13), (D_2 14), (D_2 15), (D_2 16), (D_2 17), (D_2 18), (D_2 19), (D_2 20), (D_2 21), (D_2 22), (D_2 23), (D_2 24)] ++ [x5, x101, x102, undef, x106, x21, x106, x107, x108, x111, x21, x111, x112, x113, x108, x115, x115, (D_4 0), (D_4 1), (D_4 2), x120, x120, (D_5 0), (D_5 1), x124, x124, (D_6 0), x127]).toArray, []⟩) (by kernel_rfl) ?_
                      refine wp_ret ?_
                      exact end1 (Try.results9) (by kernel_rfl) (by kernel_rfl) HA_31 H _ (.inr rfl)

end Go.Proofs.Ytlcklnbgknhhkaa
