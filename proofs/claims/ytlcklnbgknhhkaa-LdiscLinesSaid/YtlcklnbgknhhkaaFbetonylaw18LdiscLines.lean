/- The shallow reading of one function, and that the function does it. Written by a program. -/
import Derived.Test.YtlcklnbgknhhkaaFnC
set_option linter.unusedVariables false
namespace Go.Proofs.Ytlcklnbgknhhkaa
open Go Go.HW

def betonylaw18_LdiscLines_l2 (R : Value → Heap → Prop) (next : Value → Heap → Prop) (x0 x20 x6 : Value) (next1 : Value → Heap → Prop) (x7 : Value) (h_5 : Heap) : Prop :=
  sIxS x0 x6 1 fun x39 =>
  sLd h_5 x39 fun x40 =>
  sLen x40 fun x41 =>
  sLt x7 x41 fun x42 =>
  sIf x42 (sIxS x0 x6 1 fun x47 =>
  sLd h_5 x47 fun x48 =>
  sIxS x48 x7 1 fun x50 =>
  sLd h_5 x50 fun x51 =>
  sLt x51 (.int .u8 32) fun x52 =>
  sOr x52 (fun k =>
  sIxS x0 x6 1 fun x56 =>
  sLd h_5 x56 fun x57 =>
  sIxS x57 x7 1 fun x59 =>
  sLd h_5 x59 fun x60 =>
  sGt x60 (.int .u8 126) fun x61 =>
  k x61) fun x62 =>
  sIf x62 (betonylaw18_awake_c  h_5 fun x63 h_6 => 
  R x63 h_6) (sAdd .i64 x7 (.int .i64 1) fun x44 =>
  next1 x44 h_5)) (sSlit h_5 #[] [] 5 0 fun x65 h_7 => 
  sIxS x0 x6 1 fun x68 =>
  sLd h_7 x68 fun x69 =>
  sApp h_7 x65 x69 #[.int .u8 0] 5 1 fun x70 h_8 => 
  sSlit h_8 #[.int .u8 0] [(0, 1, (.int .u8 10))] 5 1 fun x71 h_9 => 
  sApp h_9 x70 x71 #[.int .u8 0] 5 1 fun x72 h_10 => 
  betonylaw18_feed_c x20 x72 h_10 fun x73 h_11 => 
  sAdd .i64 x6 (.int .i64 1) fun x28 =>
  next x28 h_11)
def betonylaw18_LdiscLines_l4 (R : Value → Heap → Prop) (next : Value → Heap → Prop) (x0 x20 x77 x9 : Value) (next1 : Value → Heap → Prop) (x10 : Value) (h_13 : Heap) : Prop :=
  sLen x10 fun x85 =>
  sIxS x0 x9 1 fun x88 =>
  sLd h_13 x88 fun x89 =>
  sLen x89 fun x90 =>
  sLe x85 x90 fun x91 =>
  sIf x91 (ldisc_Disc_Read_c x20 x77 h_13 fun x95 h_14 => 
  sTup x95 0 fun x96 =>
  sTup x95 1 fun x97 =>
  sLen x96 fun x99 =>
  sEq x99 (.int .i64 0) fun x100 =>
  sOr x100 (fun k_2 =>
  k_2 x97) fun x103 =>
  sOr x103 (fun k_1 =>
  sLen x96 fun x106 =>
  sGt x106 x77 fun x108 =>
  k_1 x108) fun x109 =>
  sIf x109 (R (.bool false) h_14) (sApp h_14 x10 x96 #[.int .u8 0] 5 1 fun x112 h_15 => 
  next1 x112 h_15)) (sSlit h_13 #[] [] 5 0 fun x114 h_16 => 
  sIxS x0 x9 1 fun x117 =>
  sLd h_16 x117 fun x118 =>
  sApp h_16 x114 x118 #[.int .u8 0] 5 1 fun x119 h_17 => 
  sSlit h_17 #[.int .u8 0] [(0, 1, (.int .u8 10))] 5 1 fun x120 h_18 => 
  sApp h_18 x119 x120 #[.int .u8 0] 5 1 fun x121 h_19 => 
  betonyref01_Same_c x10 x121 h_19 fun x122 h_20 => 
  sNot x122 fun x123 =>
  sIf x123 (R (.bool false) h_20) (sAdd .i64 x9 (.int .i64 1) fun x83 =>
  next x83 h_20))
def betonylaw18_LdiscLines_l3 (R : Value → Heap → Prop) (x0 x20 x77 : Value) (next : Value → Heap → Prop) (x9 : Value) (h_12 : Heap) : Prop :=
  sLen x0 fun x80 =>
  sLt x9 x80 fun x81 =>
  sIf x81 (sLoop (S := Value) (fun nxt s h => betonylaw18_LdiscLines_l4 R next x0 x20 x77 x9 (fun x10' h => nxt x10' h) s h) (.slice none 0 0) h_12) (ldisc_Disc_Read_c x20 x77 h_12 fun x127 h_21 => 
  sTup x127 0 fun x128 =>
  sTup x127 1 fun x129 =>
  sLen x128 fun x131 =>
  sEq x131 (.int .i64 0) fun x132 =>
  sAnd x132 (fun k_5 =>
  sNot x129 fun x135 =>
  k_5 x135) fun x136 =>
  sAndH x136 h_21 (fun k_4 =>
  ldisc_Disc_Ready_c x20 h_21 fun x139 h_25 => 
  sEq x139 (.int .i64 0) fun x140 =>
  k_4 x140 h_25) fun x141 h_22 =>
  sAndH x141 h_22 (fun k_3 =>
  betonylaw18_awake_c  h_22 fun x143 h_24 => 
  k_3 x143 h_24) fun x144 h_23 =>
  R x144 h_23)
def betonylaw18_LdiscLines_l1 (R : Value → Heap → Prop) (x0 x1 x20 : Value) (next : Value → Heap → Prop) (x6 : Value) (h_3 : Heap) : Prop :=
  sLen x0 fun x25 =>
  sLt x6 x25 fun x26 =>
  sIf x26 (sIxS x0 x6 1 fun x31 =>
  sLd h_3 x31 fun x32 =>
  sLen x32 fun x33 =>
  sGt x33 (.int .i64 40) fun x34 =>
  sIf x34 (betonylaw18_awake_c  h_3 fun x35 h_4 => 
  R x35 h_4) (sLoop (S := Value) (fun nxt s h => betonylaw18_LdiscLines_l2 R next x0 x20 x6 (fun x7' h => nxt x7' h) s h) (.int .i64 0) h_3)) (sConv .i64 x1 fun x75 =>
  sRem .i64 x75 (.int .i64 50) fun x76 =>
  sAdd .i64 (.int .i64 1) x76 fun x77 =>
  sLoop (S := Value) (fun nxt s h => betonylaw18_LdiscLines_l3 R x0 x20 x77 (fun x9' h => nxt x9' h) s h) (.int .i64 0) h_3)
def betonylaw18_LdiscLines_S (x0 x1 : Value) (h : Heap) (R : Value → Heap → Prop) : Prop :=
  sLen x0 fun x16 =>
  sGt x16 (.int .i64 12) fun x17 =>
  sIf x17 (betonylaw18_awake_c  h fun x18 h => 
  R x18 h) (betonyref17_Plain_c  h fun x19 h_1 => 
  ldisc_New_c x19 h_1 fun x20 h_2 => 
  sEqlNil x20 fun x22 =>
  sIf x22 (R (.bool false) h_2) (sLoop (S := Value) (fun nxt s h => betonylaw18_LdiscLines_l1 R x0 x1 x20 (fun x6' h => nxt x6' h) s h) (.int .i64 0) h_2))
set_option maxHeartbeats 4000000 in
set_option maxRecDepth 100000 in
theorem betonylaw18_LdiscLines_runs {x0 x1 : Value} {h : Heap} {R : Value → Heap → Prop} (H : betonylaw18_LdiscLines_S x0 x1 h R) : betonylaw18_LdiscLines_c x0 x1 h R := by
  unfold betonylaw18_LdiscLines_S at H
  refine runs_of (b := ⟨([x0, x1, undef, undef, undef, undef, undef, undef, undef, undef, undef, undef, undef, undef, undef, undef, undef, undef, undef, undef, undef, undef, undef, undef, undef, undef, undef, undef, undef, undef, undef, undef, undef, undef, undef, undef, undef, undef, undef, undef, undef, undef, undef, undef, undef, undef, undef, undef, undef, undef] ++ [undef, undef, undef, undef, undef, undef, undef, undef, undef, undef, undef, undef, undef, undef, undef, undef, undef, undef, undef, undef, undef, undef, undef, undef, undef, undef, undef, undef, undef, undef, undef, undef, undef, undef, undef, undef, undef, undef, undef, undef, undef, undef, undef, undef, undef, undef, undef, undef, undef, undef] ++ [undef, undef, undef, undef, undef, undef, undef, undef, undef, undef, undef, undef, undef, undef, undef, undef, undef, undef, undef, undef, undef, undef, undef, undef, undef, undef, undef, undef, undef, undef, undef, undef, undef, undef, undef, undef, undef, undef, undef, undef, undef, undef, undef, undef, undef]).toArray, []⟩) Try.call3 Try.func3 rfl (by kernel_rfl) (fun w0 HA => ?_)
  refine wp_seq ?_
  refine lwp_list ?_
  refine ls_assign (x := (.bool false)) (by kernel_rfl) (by kernel_rfl) ?_
  refine ls_nil ?_
  refine then_normal ?_
  refine fr_eq (b := ⟨([x0, x1, undef, undef, (.bool false), undef, undef, undef, undef, undef, undef, undef, undef, undef, undef, undef, undef, undef, undef, undef, undef, undef, undef, undef, undef, undef, undef, undef, undef, undef, undef, undef, undef, undef, undef, undef, undef, undef, undef, undef, undef, undef, undef, undef, undef, undef, undef, undef, undef, undef] ++ [undef, undef, undef, undef, undef, undef, undef, undef, undef, undef, undef, undef, undef, undef, undef, undef, undef, undef, undef, undef, undef, undef, undef, undef, undef, undef, undef, undef, undef, undef, undef, undef, undef, undef, undef, undef, undef, undef, undef, undef, undef, undef, undef, undef, undef, undef, undef, undef, undef, undef] ++ [undef, undef, undef, undef, undef, undef, undef, undef, undef, undef, undef, undef, undef, undef, undef, undef, undef, undef, undef, undef, undef, undef, undef, undef, undef, undef, undef, undef, undef, undef, undef, undef, undef, undef, undef, undef, undef, undef, undef, undef, undef, undef, undef, undef, undef]).toArray, []⟩) (by kernel_rfl) ?_
  refine wp_seq ?_
  refine wp_seq ?_
  refine lwp_list ?_
  refine ls_move (x := x0) (by kernel_rfl) (by kernel_rfl) ?_
  refine ls_p (d := some 16) (by kernel_rfl) (by kernel_rfl) (p_len Try.underlying22 (by kernel_rfl) H) (fun x16 H => ?_)
  refine ls_p (d := some 17) (by kernel_rfl) (by kernel_rfl) (p_sGt (by kernel_rfl) (by kernel_rfl) H) (fun x17 H => ?_)
  refine ls_nil ?_
  refine then_normal ?_
  refine fr_eq (b := ⟨([x0, x1, undef, undef, (.bool false), undef, undef, undef, undef, undef, undef, undef, undef, undef, undef, x0, x16, x17, undef, undef, undef, undef, undef, undef, undef, undef, undef, undef, undef, undef, undef, undef, undef, undef, undef, undef, undef, undef, undef, undef, undef, undef, undef, undef, undef, undef, undef, undef, undef, undef] ++ [undef, undef, undef, undef, undef, undef, undef, undef, undef, undef, undef, undef, undef, undef, undef, undef, undef, undef, undef, undef, undef, undef, undef, undef, undef, undef, undef, undef, undef, undef, undef, undef, undef, undef, undef, undef, undef, undef, undef, undef, undef, undef, undef, undef, undef, undef, undef, undef, undef, undef] ++ [undef, undef, undef, undef, undef, undef, undef, undef, undef, undef, undef, undef, undef, undef, undef, undef, undef, undef, undef, undef, undef, undef, undef, undef, undef, undef, undef, undef, undef, undef, undef, undef, undef, undef, undef, undef, undef, undef, undef, undef, undef, undef, undef, undef, undef]).toArray, []⟩) (by kernel_rfl) ?_
  refine wp_if rfl H (fun H => ?_) (fun H => ?_)
  · refine wp_seq ?_
    refine lwp_list ?_
    refine ls_d (d := some 18) (by kernel_rfl) (by kernel_rfl) HA (d_call (by kernel_rfl) (by kernel_rfl) H) (fun x18 h w H HA => ?_)
    refine ls_assign (x := x18) (by kernel_rfl) (by kernel_rfl) ?_
    refine ls_nil ?_
    refine then_normal ?_
    refine fr_eq (b := ⟨([x0, x1, undef, undef, x18, undef, undef, undef, undef, undef, undef, undef, undef, undef, undef, x0, x16, x17, x18, undef, undef, undef, undef, undef, undef, undef, undef, undef, undef, undef, undef, undef, undef, undef, undef, undef, undef, undef, undef, undef, undef, undef, undef, undef, undef, undef, undef, undef, undef, undef] ++ [undef, undef, undef, undef, undef, undef, undef, undef, undef, undef, undef, undef, undef, undef, undef, undef, undef, undef, undef, undef, undef, undef, undef, undef, undef, undef, undef, undef, undef, undef, undef, undef, undef, undef, undef, undef, undef, undef, undef, undef, undef, undef, undef, undef, undef, undef, undef, undef, undef, undef] ++ [undef, undef, undef, undef, undef, undef, undef, undef, undef, undef, undef, undef, undef, undef, undef, undef, undef, undef, undef, undef, undef, undef, undef, undef, undef, undef, undef, undef, undef, undef, undef, undef, undef, undef, undef, undef, undef, undef, undef, undef, undef, undef, undef, undef, undef]).toArray, []⟩) (by kernel_rfl) ?_
    refine wp_ret ?_
    refine then_ret ?_
    exact end1 (Try.results3) (by kernel_rfl) (by kernel_rfl) HA H _ (.inr rfl)
  · refine wp_skip ?_
    refine then_normal ?_
    refine fr_eq (b := ⟨([x0, x1, undef, undef, (.bool false), undef, undef, undef, undef, undef, undef, undef, undef, undef, undef, x0, x16, x17, undef, undef, undef, undef, undef, undef, undef, undef, undef, undef, undef, undef, undef, undef, undef, undef, undef, undef, undef, undef, undef, undef, undef, undef, undef, undef, undef, undef, undef, undef, undef, undef] ++ [undef, undef, undef, undef, undef, undef, undef, undef, undef, undef, undef, undef, undef, undef, undef, undef, undef, undef, undef, undef, undef, undef, undef, undef, undef, undef, undef, undef, undef, undef, undef, undef, undef, undef, undef, undef, undef, undef, undef, undef, undef, undef, undef, undef, undef, undef, undef, undef, undef, undef] ++ [undef, undef, undef, undef, undef, undef, undef, undef, undef, undef, undef, undef, undef, undef, undef, undef, undef, undef, undef, undef, undef, undef, undef, undef, undef, undef, undef, undef, undef, undef, undef, undef, undef, undef, undef, undef, undef, undef, undef, undef, undef, undef, undef, undef, undef]).toArray, []⟩) (by kernel_rfl) ?_
    refine wp_seq ?_
    refine lwp_list ?_
    refine ls_d (d := some 19) (by kernel_rfl) (by kernel_rfl) HA (d_call (by kernel_rfl) (by kernel_rfl) H) (fun x19 h_1 w_1 H HA_1 => ?_)
    refine ls_d (d := some 20) (by kernel_rfl) (by kernel_rfl) HA_1 (d_call (by kernel_rfl) (by kernel_rfl) H) (fun x20 h_2 w_2 H HA_2 => ?_)
    refine ls_assign (x := x20) (by kernel_rfl) (by kernel_rfl) ?_
    refine ls_nil ?_
    refine then_normal ?_
    refine fr_eq (b := ⟨([x0, x1, undef, undef, (.bool false), x20, undef, undef, undef, undef, undef, undef, undef, undef, undef, x0, x16, x17, undef, x19, x20, undef, undef, undef, undef, undef, undef, undef, undef, undef, undef, undef, undef, undef, undef, undef, undef, undef, undef, undef, undef, undef, undef, undef, undef, undef, undef, undef, undef, undef] ++ [undef, undef, undef, undef, undef, undef, undef, undef, undef, undef, undef, undef, undef, undef, undef, undef, undef, undef, undef, undef, undef, undef, undef, undef, undef, undef, undef, undef, undef, undef, undef, undef, undef, undef, undef, undef, undef, undef, undef, undef, undef, undef, undef, undef, undef, undef, undef, undef, undef, undef] ++ [undef, undef, undef, undef, undef, undef, undef, undef, undef, undef, undef, undef, undef, undef, undef, undef, undef, undef, undef, undef, undef, undef, undef, undef, undef, undef, undef, undef, undef, undef, undef, undef, undef, undef, undef, undef, undef, undef, undef, undef, undef, undef, undef, undef, undef]).toArray, []⟩) (by kernel_rfl) ?_
    refine wp_seq ?_
    refine wp_seq ?_
    refine lwp_list ?_
    refine ls_move (x := x20) (by kernel_rfl) (by kernel_rfl) ?_
    refine ls_p (d := some 22) (by kernel_rfl) (by kernel_rfl) (p_eqlNil Try.underlying24 (by kernel_rfl) (by kernel_rfl) H) (fun x22 H => ?_)
    refine ls_nil ?_
    refine then_normal ?_
    refine fr_eq (b := ⟨([x0, x1, undef, undef, (.bool false), x20, undef, undef, undef, undef, undef, undef, undef, undef, undef, x0, x16, x17, undef, x19, x20, x20, x22, undef, undef, undef, undef, undef, undef, undef, undef, undef, undef, undef, undef, undef, undef, undef, undef, undef, undef, undef, undef, undef, undef, undef, undef, undef, undef, undef] ++ [undef, undef, undef, undef, undef, undef, undef, undef, undef, undef, undef, undef, undef, undef, undef, undef, undef, undef, undef, undef, undef, undef, undef, undef, undef, undef, undef, undef, undef, undef, undef, undef, undef, undef, undef, undef, undef, undef, undef, undef, undef, undef, undef, undef, undef, undef, undef, undef, undef, undef] ++ [undef, undef, undef, undef, undef, undef, undef, undef, undef, undef, undef, undef, undef, undef, undef, undef, undef, undef, undef, undef, undef, undef, undef, undef, undef, undef, undef, undef, undef, undef, undef, undef, undef, undef, undef, undef, undef, undef, undef, undef, undef, undef, undef, undef, undef]).toArray, []⟩) (by kernel_rfl) ?_
    refine wp_if rfl H (fun H => ?_) (fun H => ?_)
    · refine wp_seq ?_
      refine lwp_list ?_
      refine ls_assign (x := (.bool false)) (by kernel_rfl) (by kernel_rfl) ?_
      refine ls_nil ?_
      refine then_normal ?_
      refine fr_eq (b := ⟨([x0, x1, undef, undef, (.bool false), x20, undef, undef, undef, undef, undef, undef, undef, undef, undef, x0, x16, x17, undef, x19, x20, x20, x22, undef, undef, undef, undef, undef, undef, undef, undef, undef, undef, undef, undef, undef, undef, undef, undef, undef, undef, undef, undef, undef, undef, undef, undef, undef, undef, undef] ++ [undef, undef, undef, undef, undef, undef, undef, undef, undef, undef, undef, undef, undef, undef, undef, undef, undef, undef, undef, undef, undef, undef, undef, undef, undef, undef, undef, undef, undef, undef, undef, undef, undef, undef, undef, undef, undef, undef, undef, undef, undef, undef, undef, undef, undef, undef, undef, undef, undef, undef] ++ [undef, undef, undef, undef, undef, undef, undef, undef, undef, undef, undef, undef, undef, undef, undef, undef, undef, undef, undef, undef, undef, undef, undef, undef, undef, undef, undef, undef, undef, undef, undef, undef, undef, undef, undef, undef, undef, undef, undef, undef, undef, undef, undef, undef, undef]).toArray, []⟩) (by kernel_rfl) ?_
      refine wp_ret ?_
      refine then_ret ?_
      exact end1 (Try.results3) (by kernel_rfl) (by kernel_rfl) HA_2 H _ (.inr rfl)
    · refine wp_skip ?_
      refine then_normal ?_
      refine fr_eq (b := ⟨([x0, x1, undef, undef, (.bool false), x20, undef, undef, undef, undef, undef, undef, undef, undef, undef, x0, x16, x17, undef, x19, x20, x20, x22, undef, undef, undef, undef, undef, undef, undef, undef, undef, undef, undef, undef, undef, undef, undef, undef, undef, undef, undef, undef, undef, undef, undef, undef, undef, undef, undef] ++ [undef, undef, undef, undef, undef, undef, undef, undef, undef, undef, undef, undef, undef, undef, undef, undef, undef, undef, undef, undef, undef, undef, undef, undef, undef, undef, undef, undef, undef, undef, undef, undef, undef, undef, undef, undef, undef, undef, undef, undef, undef, undef, undef, undef, undef, undef, undef, undef, undef, undef] ++ [undef, undef, undef, undef, undef, undef, undef, undef, undef, undef, undef, undef, undef, undef, undef, undef, undef, undef, undef, undef, undef, undef, undef, undef, undef, undef, undef, undef, undef, undef, undef, undef, undef, undef, undef, undef, undef, undef, undef, undef, undef, undef, undef, undef, undef]).toArray, []⟩) (by kernel_rfl) ?_
      refine wp_seq ?_
      refine wp_seq ?_
      refine lwp_list ?_
      refine ls_assign (x := (.int .i64 0)) (by kernel_rfl) (by kernel_rfl) ?_
      refine ls_nil ?_
      refine then_normal ?_
      refine fr_eq (b := ⟨([x0, x1, undef, undef, (.bool false), x20, (.int .i64 0), undef, undef, undef, undef, undef, undef, undef, undef, x0, x16, x17, undef, x19, x20, x20, x22, undef, undef, undef, undef, undef, undef, undef, undef, undef, undef, undef, undef, undef, undef, undef, undef, undef, undef, undef, undef, undef, undef, undef, undef, undef, undef, undef] ++ [undef, undef, undef, undef, undef, undef, undef, undef, undef, undef, undef, undef, undef, undef, undef, undef, undef, undef, undef, undef, undef, undef, undef, undef, undef, undef, undef, undef, undef, undef, undef, undef, undef, undef, undef, undef, undef, undef, undef, undef, undef, undef, undef, undef, undef, undef, undef, undef, undef, undef] ++ [undef, undef, undef, undef, undef, undef, undef, undef, undef, undef, undef, undef, undef, undef, undef, undef, undef, undef, undef, undef, undef, undef, undef, undef, undef, undef, undef, undef, undef, undef, undef, undef, undef, undef, undef, undef, undef, undef, undef, undef, undef, undef, undef, undef, undef]).toArray, []⟩) (by kernel_rfl) ?_
      refine wp_block ?_
      obtain ⟨I, m, H0, HB⟩ := H
      refine wp_loop (fun a w => ∃ (D : Nat → Value) (x6 : Value) (h_3 : Heap), a = ⟨([x0, x1, undef, undef, (D 0), x20, x6, (D 1), undef, undef, undef, undef, undef, undef, undef, x0, x16, x17, undef, x19, x20, x20, x22, (D 2), (D 3), (D 4), (D 5), (D 6), (D 7), (D 8), (D 9), (D 10), (D 11), (D 12), (D 13), (D 14), (D 15), (D 16), (D 17), (D 18), (D 19), (D 20), (D 21), (D 22), (D 23), (D 24), (D 25), (D 26), (D 27), (D 28)] ++ [(D 29), (D 30), (D 31), (D 32), (D 33), (D 34), (D 35), (D 36), (D 37), (D 38), (D 39), (D 40), (D 41), (D 42), (D 43), (D 44), (D 45), (D 46), (D 47), (D 48), (D 49), (D 50), (D 51), (D 52), undef, undef, undef, undef, undef, undef, undef, undef, undef, undef, undef, undef, undef, undef, undef, undef, undef, undef, undef, undef, undef, undef, undef, undef, undef, undef] ++ [undef, undef, undef, undef, undef, undef, undef, undef, undef, undef, undef, undef, undef, undef, undef, undef, undef, undef, undef, undef, undef, undef, undef, undef, undef, undef, undef, undef, undef, undef, undef, undef, undef, undef, undef, undef, undef, undef, undef, undef, undef, undef, undef, undef, undef]).toArray, []⟩ ∧ At w0 w h_3 ∧ I x6 h_3) (fun a w => m (a.tmps.getD 6 undef) w.heap) ?_ ?_
      · exact ⟨(fun i => ([(.bool false), undef, undef, undef, undef, undef, undef, undef, undef, undef, undef, undef, undef, undef, undef, undef, undef, undef, undef, undef, undef, undef, undef, undef, undef, undef, undef, undef, undef, undef, undef, undef, undef, undef, undef, undef, undef, undef, undef, undef, undef, undef, undef, undef, undef, undef, undef, undef, undef, undef] ++ [undef, undef, undef]).getD i undef), (.int .i64 0), h_2, by kernel_rfl, HA_2, H0⟩
      · rintro _ w_3 ⟨D, x6, h_3, rfl, HA_3, HI⟩
        have H : betonylaw18_LdiscLines_l1 R x0 x1 x20 (fun x6' h' => I x6' h' ∧ m x6' h' < m x6 h_3) x6 h_3 := HB x6 h_3 HI
        clear HB H0 HI
        unfold betonylaw18_LdiscLines_l1 at H
        refine wp_seq ?_
        refine wp_seq ?_
        refine lwp_list ?_
        refine ls_move (x := x6) (by kernel_rfl) (by kernel_rfl) ?_
        refine ls_move (x := x0) (by kernel_rfl) (by kernel_rfl) ?_
        refine ls_p (d := some 25) (by kernel_rfl) (by kernel_rfl) (p_len Try.underlying22 (by kernel_rfl) H) (fun x25 H => ?_)
        refine ls_p (d := some 26) (by kernel_rfl) (by kernel_rfl) (p_sLt (by kernel_rfl) (by kernel_rfl) H) (fun x26 H => ?_)
        refine ls_nil ?_
        refine then_normal ?_
        refine fr_eq (b := ⟨([x0, x1, undef, undef, (D 0), x20, x6, (D 1), undef, undef, undef, undef, undef, undef, undef, x0, x16, x17, undef, x19, x20, x20, x22, x6, x0, x25, x26, (D 6), (D 7), (D 8), (D 9), (D 10), (D 11), (D 12), (D 13), (D 14), (D 15), (D 16), (D 17), (D 18), (D 19), (D 20), (D 21), (D 22), (D 23), (D 24), (D 25), (D 26), (D 27), (D 28)] ++ [(D 29), (D 30), (D 31), (D 32), (D 33), (D 34), (D 35), (D 36), (D 37), (D 38), (D 39), (D 40), (D 41), (D 42), (D 43), (D 44), (D 45), (D 46), (D 47), (D 48), (D 49), (D 50), (D 51), (D 52), undef, undef, undef, undef, undef, undef, undef, undef, undef, undef, undef, undef, undef, undef, undef, undef, undef, undef, undef, undef, undef, undef, undef, undef, undef, undef] ++ [undef, undef, undef, undef, undef, undef, undef, undef, undef, undef, undef, undef, undef, undef, undef, undef, undef, undef, undef, undef, undef, undef, undef, undef, undef, undef, undef, undef, undef, undef, undef, undef, undef, undef, undef, undef, undef, undef, undef, undef, undef, undef, undef, undef, undef]).toArray, []⟩) (by kernel_rfl) ?_
        refine wp_if rfl H (fun H => ?_) (fun H => ?_)
        · refine wp_skip ?_
          refine then_normal ?_
          refine fr_eq (b := ⟨([x0, x1, undef, undef, (D 0), x20, x6, (D 1), undef, undef, undef, undef, undef, undef, undef, x0, x16, x17, undef, x19, x20, x20, x22, x6, x0, x25, x26, (D 6), (D 7), (D 8), (D 9), (D 10), (D 11), (D 12), (D 13), (D 14), (D 15), (D 16), (D 17), (D 18), (D 19), (D 20), (D 21), (D 22), (D 23), (D 24), (D 25), (D 26), (D 27), (D 28)] ++ [(D 29), (D 30), (D 31), (D 32), (D 33), (D 34), (D 35), (D 36), (D 37), (D 38), (D 39), (D 40), (D 41), (D 42), (D 43), (D 44), (D 45), (D 46), (D 47), (D 48), (D 49), (D 50), (D 51), (D 52), undef, undef, undef, undef, undef, undef, undef, undef, undef, undef, undef, undef, undef, undef, undef, undef, undef, undef, undef, undef, undef, undef, undef, undef, undef, undef] ++ [undef, undef, undef, undef, undef, undef, undef, undef, undef, undef, undef, undef, undef, undef, undef, undef, undef, undef, undef, undef, undef, undef, undef, undef, undef, undef, undef, undef, undef, undef, undef, undef, undef, undef, undef, undef, undef, undef, undef, undef, undef, undef, undef, undef, undef]).toArray, []⟩) (by kernel_rfl) ?_
          refine wp_seq ?_
          refine wp_block ?_
          refine wp_seq ?_
          refine wp_seq ?_
          refine lwp_list ?_
          refine ls_move (x := x0) (by kernel_rfl) (by kernel_rfl) ?_
          refine ls_move (x := x6) (by kernel_rfl) (by kernel_rfl) ?_
          refine ls_p (d := some 31) (by kernel_rfl) (by kernel_rfl) (p_ixs Try.underlying22 Try.sizeOf30 (by kernel_rfl) (by kernel_rfl) H) (fun x31 H => ?_)
          refine ls_y (d := some 32) (by kernel_rfl) (by kernel_rfl) HA_3 (y_ld Try.isAgg30 (by kernel_rfl) H) (fun x32 H => ?_)
          refine ls_p (d := some 33) (by kernel_rfl) (by kernel_rfl) (p_len Try.underlying30 (by kernel_rfl) H) (fun x33 H => ?_)
          refine ls_p (d := some 34) (by kernel_rfl) (by kernel_rfl) (p_sGt (by kernel_rfl) (by kernel_rfl) H) (fun x34 H => ?_)
          refine ls_nil ?_
          refine then_normal ?_
          refine fr_eq (b := ⟨([x0, x1, undef, undef, (D 0), x20, x6, (D 1), undef, undef, undef, undef, undef, undef, undef, x0, x16, x17, undef, x19, x20, x20, x22, x6, x0, x25, x26, (D 6), (D 7), x0, x6, x31, x32, x33, x34, (D 14), (D 15), (D 16), (D 17), (D 18), (D 19), (D 20), (D 21), (D 22), (D 23), (D 24), (D 25), (D 26), (D 27), (D 28)] ++ [(D 29), (D 30), (D 31), (D 32), (D 33), (D 34), (D 35), (D 36), (D 37), (D 38), (D 39), (D 40), (D 41), (D 42), (D 43), (D 44), (D 45), (D 46), (D 47), (D 48), (D 49), (D 50), (D 51), (D 52), undef, undef, undef, undef, undef, undef, undef, undef, undef, undef, undef, undef, undef, undef, undef, undef, undef, undef, undef, undef, undef, undef, undef, undef, undef, undef] ++ [undef, undef, undef, undef, undef, undef, undef, undef, undef, undef, undef, undef, undef, undef, undef, undef, undef, undef, undef, undef, undef, undef, undef, undef, undef, undef, undef, undef, undef, undef, undef, undef, undef, undef, undef, undef, undef, undef, undef, undef, undef, undef, undef, undef, undef]).toArray, []⟩) (by kernel_rfl) ?_
          refine wp_if rfl H (fun H => ?_) (fun H => ?_)
          · refine wp_seq ?_
            refine lwp_list ?_
            refine ls_d (d := some 35) (by kernel_rfl) (by kernel_rfl) HA_3 (d_call (by kernel_rfl) (by kernel_rfl) H) (fun x35 h_4 w_4 H HA_4 => ?_)
            refine ls_assign (x := x35) (by kernel_rfl) (by kernel_rfl) ?_
            refine ls_nil ?_
            refine then_normal ?_
            refine fr_eq (b := ⟨([x0, x1, undef, undef, x35, x20, x6, (D 1), undef, undef, undef, undef, undef, undef, undef, x0, x16, x17, undef, x19, x20, x20, x22, x6, x0, x25, x26, (D 6), (D 7), x0, x6, x31, x32, x33, x34, x35, (D 15), (D 16), (D 17), (D 18), (D 19), (D 20), (D 21), (D 22), (D 23), (D 24), (D 25), (D 26), (D 27), (D 28)] ++ [(D 29), (D 30), (D 31), (D 32), (D 33), (D 34), (D 35), (D 36), (D 37), (D 38), (D 39), (D 40), (D 41), (D 42), (D 43), (D 44), (D 45), (D 46), (D 47), (D 48), (D 49), (D 50), (D 51), (D 52), undef, undef, undef, undef, undef, undef, undef, undef, undef, undef, undef, undef, undef, undef, undef, undef, undef, undef, undef, undef, undef, undef, undef, undef, undef, undef] ++ [undef, undef, undef, undef, undef, undef, undef, undef, undef, undef, undef, undef, undef, undef, undef, undef, undef, undef, undef, undef, undef, undef, undef, undef, undef, undef, undef, undef, undef, undef, undef, undef, undef, undef, undef, undef, undef, undef, undef, undef, undef, undef, undef, undef, undef]).toArray, []⟩) (by kernel_rfl) ?_
            refine wp_ret ?_
            refine then_ret ?_
            refine block_ret ?_
            refine then_ret ?_
            refine then_ret ?_
            refine block_ret ?_
            refine then_ret ?_
            exact end1 (Try.results3) (by kernel_rfl) (by kernel_rfl) HA_4 H _ (.inr rfl)
          · refine wp_skip ?_
            refine then_normal ?_
            refine fr_eq (b := ⟨([x0, x1, undef, undef, (D 0), x20, x6, (D 1), undef, undef, undef, undef, undef, undef, undef, x0, x16, x17, undef, x19, x20, x20, x22, x6, x0, x25, x26, (D 6), (D 7), x0, x6, x31, x32, x33, x34, (D 14), (D 15), (D 16), (D 17), (D 18), (D 19), (D 20), (D 21), (D 22), (D 23), (D 24), (D 25), (D 26), (D 27), (D 28)] ++ [(D 29), (D 30), (D 31), (D 32), (D 33), (D 34), (D 35), (D 36), (D 37), (D 38), (D 39), (D 40), (D 41), (D 42), (D 43), (D 44), (D 45), (D 46), (D 47), (D 48), (D 49), (D 50), (D 51), (D 52), undef, undef, undef, undef, undef, undef, undef, undef, undef, undef, undef, undef, undef, undef, undef, undef, undef, undef, undef, undef, undef, undef, undef, undef, undef, undef] ++ [undef, undef, undef, undef, undef, undef, undef, undef, undef, undef, undef, undef, undef, undef, undef, undef, undef, undef, undef, undef, undef, undef, undef, undef, undef, undef, undef, undef, undef, undef, undef, undef, undef, undef, undef, undef, undef, undef, undef, undef, undef, undef, undef, undef, undef]).toArray, []⟩) (by kernel_rfl) ?_
            refine wp_seq ?_
            refine wp_seq ?_
            refine lwp_list ?_
            refine ls_assign (x := (.int .i64 0)) (by kernel_rfl) (by kernel_rfl) ?_
            refine ls_nil ?_
            refine then_normal ?_
            refine fr_eq (b := ⟨([x0, x1, undef, undef, (D 0), x20, x6, (.int .i64 0), undef, undef, undef, undef, undef, undef, undef, x0, x16, x17, undef, x19, x20, x20, x22, x6, x0, x25, x26, (D 6), (D 7), x0, x6, x31, x32, x33, x34, (D 14), (D 15), (D 16), (D 17), (D 18), (D 19), (D 20), (D 21), (D 22), (D 23), (D 24), (D 25), (D 26), (D 27), (D 28)] ++ [(D 29), (D 30), (D 31), (D 32), (D 33), (D 34), (D 35), (D 36), (D 37), (D 38), (D 39), (D 40), (D 41), (D 42), (D 43), (D 44), (D 45), (D 46), (D 47), (D 48), (D 49), (D 50), (D 51), (D 52), undef, undef, undef, undef, undef, undef, undef, undef, undef, undef, undef, undef, undef, undef, undef, undef, undef, undef, undef, undef, undef, undef, undef, undef, undef, undef] ++ [undef, undef, undef, undef, undef, undef, undef, undef, undef, undef, undef, undef, undef, undef, undef, undef, undef, undef, undef, undef, undef, undef, undef, undef, undef, undef, undef, undef, undef, undef, undef, undef, undef, undef, undef, undef, undef, undef, undef, undef, undef, undef, undef, undef, undef]).toArray, []⟩) (by kernel_rfl) ?_
            refine wp_block ?_
            obtain ⟨I_1, m_1, H0, HB⟩ := H
            refine wp_loop (fun a w => ∃ (D_1 : Nat → Value) (x7 : Value) (h_5 : Heap), a = ⟨([x0, x1, undef, undef, (D_1 0), x20, x6, x7, undef, undef, undef, undef, undef, undef, undef, x0, x16, x17, undef, x19, x20, x20, x22, x6, x0, x25, x26, (D 6), (D 7), x0, x6, x31, x32, x33, x34, (D 14), (D_1 1), (D_1 2), (D_1 3), (D_1 4), (D_1 5), (D_1 6), (D_1 7), (D_1 8), (D_1 9), (D_1 10), (D_1 11), (D_1 12), (D_1 13), (D_1 14)] ++ [(D_1 15), (D_1 16), (D_1 17), (D_1 18), (D_1 19), (D_1 20), (D_1 21), (D_1 22), (D_1 23), (D_1 24), (D_1 25), (D_1 26), (D_1 27), (D_1 28), (D 43), (D 44), (D 45), (D 46), (D 47), (D 48), (D 49), (D 50), (D 51), (D 52), undef, undef, undef, undef, undef, undef, undef, undef, undef, undef, undef, undef, undef, undef, undef, undef, undef, undef, undef, undef, undef, undef, undef, undef, undef, undef] ++ [undef, undef, undef, undef, undef, undef, undef, undef, undef, undef, undef, undef, undef, undef, undef, undef, undef, undef, undef, undef, undef, undef, undef, undef, undef, undef, undef, undef, undef, undef, undef, undef, undef, undef, undef, undef, undef, undef, undef, undef, undef, undef, undef, undef, undef]).toArray, []⟩ ∧ At w0 w h_5 ∧ I_1 x7 h_5) (fun a w => m_1 (a.tmps.getD 7 undef) w.heap) ?_ ?_
            · exact ⟨(fun i => ([(D 0), (D 15), (D 16), (D 17), (D 18), (D 19), (D 20), (D 21), (D 22), (D 23), (D 24), (D 25), (D 26), (D 27), (D 28), (D 29), (D 30), (D 31), (D 32), (D 33), (D 34), (D 35), (D 36), (D 37), (D 38), (D 39), (D 40), (D 41), (D 42)]).getD i undef), (.int .i64 0), h_3, by kernel_rfl, HA_3, H0⟩
            · rintro _ w_5 ⟨D_1, x7, h_5, rfl, HA_5, HI⟩
              have H : betonylaw18_LdiscLines_l2 R (fun x6' h' => I x6' h' ∧ m x6' h' < m x6 h_3) x0 x20 x6 (fun x7' h' => I_1 x7' h' ∧ m_1 x7' h' < m_1 x7 h_5) x7 h_5 := HB x7 h_5 HI
              clear HB H0 HI
              unfold betonylaw18_LdiscLines_l2 at H
              refine wp_seq ?_
              refine wp_seq ?_
              refine lwp_list ?_
              refine ls_move (x := x7) (by kernel_rfl) (by kernel_rfl) ?_
              refine ls_move (x := x0) (by kernel_rfl) (by kernel_rfl) ?_
              refine ls_move (x := x6) (by kernel_rfl) (by kernel_rfl) ?_
              refine ls_p (d := some 39) (by kernel_rfl) (by kernel_rfl) (p_ixs Try.underlying22 Try.sizeOf30 (by kernel_rfl) (by kernel_rfl) H) (fun x39 H => ?_)
              refine ls_y (d := some 40) (by kernel_rfl) (by kernel_rfl) HA_5 (y_ld Try.isAgg30 (by kernel_rfl) H) (fun x40 H => ?_)
              refine ls_p (d := some 41) (by kernel_rfl) (by kernel_rfl) (p_len Try.underlying30 (by kernel_rfl) H) (fun x41 H => ?_)
              refine ls_fr (b := ⟨([x0, x1, undef, undef, (D_1 0), x20, x6, x7, undef, undef, undef, undef, undef, undef, undef, x0, x16, x17, undef, x19, x20, x20, x22, x6, x0, x25, x26, (D 6), (D 7), x0, x6, x31, x32, x33, x34, (D 14), x7, x0, x6, x39, x40, x41, (D_1 7), (D_1 8), (D_1 9), (D_1 10), (D_1 11), (D_1 12), (D_1 13), (D_1 14)] ++ [(D_1 15), (D_1 16), (D_1 17), (D_1 18), (D_1 19), (D_1 20), (D_1 21), (D_1 22), (D_1 23), (D_1 24), (D_1 25), (D_1 26), (D_1 27), (D_1 28), (D 43), (D 44), (D 45), (D 46), (D 47), (D 48), (D 49), (D 50), (D 51), (D 52), undef, undef, undef, undef, undef, undef, undef, undef, undef, undef, undef, undef, undef, undef, undef, undef, undef, undef, undef, undef, undef, undef, undef, undef, undef, undef] ++ [undef, undef, undef, undef, undef, undef, undef, undef, undef, undef, undef, undef, undef, undef, undef, undef, undef, undef, undef, undef, undef, undef, undef, undef, undef, undef, undef, undef, undef, undef, undef, undef, undef, undef, undef, undef, undef, undef, undef, undef, undef, undef, undef, undef, undef]).toArray, []⟩) (by kernel_rfl) ?_
              refine ls_p (d := some 42) (by kernel_rfl) (by kernel_rfl) (p_sLt (by kernel_rfl) (by kernel_rfl) H) (fun x42 H => ?_)
              refine ls_nil ?_
              refine then_normal ?_
              refine fr_eq (b := ⟨([x0, x1, undef, undef, (D_1 0), x20, x6, x7, undef, undef, undef, undef, undef, undef, undef, x0, x16, x17, undef, x19, x20, x20, x22, x6, x0, x25, x26, (D 6), (D 7), x0, x6, x31, x32, x33, x34, (D 14), x7, x0, x6, x39, x40, x41, x42, (D_1 8), (D_1 9), (D_1 10), (D_1 11), (D_1 12), (D_1 13), (D_1 14)] ++ [(D_1 15), (D_1 16), (D_1 17), (D_1 18), (D_1 19), (D_1 20), (D_1 21), (D_1 22), (D_1 23), (D_1 24), (D_1 25), (D_1 26), (D_1 27), (D_1 28), (D 43), (D 44), (D 45), (D 46), (D 47), (D 48), (D 49), (D 50), (D 51), (D 52), undef, undef, undef, undef, undef, undef, undef, undef, undef, undef, undef, undef, undef, undef, undef, undef, undef, undef, undef, undef, undef, undef, undef, undef, undef, undef] ++ [undef, undef, undef, undef, undef, undef, undef, undef, undef, undef, undef, undef, undef, undef, undef, undef, undef, undef, undef, undef, undef, undef, undef, undef, undef, undef, undef, undef, undef, undef, undef, undef, undef, undef, undef, undef, undef, undef, undef, undef, undef, undef, undef, undef, undef]).toArray, []⟩) (by kernel_rfl) ?_
              refine wp_if rfl H (fun H => ?_) (fun H => ?_)
              · refine wp_skip ?_
                refine then_normal ?_
                refine fr_eq (b := ⟨([x0, x1, undef, undef, (D_1 0), x20, x6, x7, undef, undef, undef, undef, undef, undef, undef, x0, x16, x17, undef, x19, x20, x20, x22, x6, x0, x25, x26, (D 6), (D 7), x0, x6, x31, x32, x33, x34, (D 14), x7, x0, x6, x39, x40, x41, x42, (D_1 8), (D_1 9), (D_1 10), (D_1 11), (D_1 12), (D_1 13), (D_1 14)] ++ [(D_1 15), (D_1 16), (D_1 17), (D_1 18), (D_1 19), (D_1 20), (D_1 21), (D_1 22), (D_1 23), (D_1 24), (D_1 25), (D_1 26), (D_1 27), (D_1 28), (D 43), (D 44), (D 45), (D 46), (D 47), (D 48), (D 49), (D 50), (D 51), (D 52), undef, undef, undef, undef, undef, undef, undef, undef, undef, undef, undef, undef, undef, undef, undef, undef, undef, undef, undef, undef, undef, undef, undef, undef, undef, undef] ++ [undef, undef, undef, undef, undef, undef, undef, undef, undef, undef, undef, undef, undef, undef, undef, undef, undef, undef, undef, undef, undef, undef, undef, undef, undef, undef, undef, undef, undef, undef, undef, undef, undef, undef, undef, undef, undef, undef, undef, undef, undef, undef, undef, undef, undef]).toArray, []⟩) (by kernel_rfl) ?_
                refine wp_seq ?_
                refine wp_block ?_
                refine wp_seq ?_
                refine lwp_list ?_
                refine ls_move (x := x0) (by kernel_rfl) (by kernel_rfl) ?_
                refine ls_move (x := x6) (by kernel_rfl) (by kernel_rfl) ?_
                refine ls_p (d := some 47) (by kernel_rfl) (by kernel_rfl) (p_ixs Try.underlying22 Try.sizeOf30 (by kernel_rfl) (by kernel_rfl) H) (fun x47 H => ?_)
                refine ls_y (d := some 48) (by kernel_rfl) (by kernel_rfl) HA_5 (y_ld Try.isAgg30 (by kernel_rfl) H) (fun x48 H => ?_)
                refine ls_move (x := x7) (by kernel_rfl) (by kernel_rfl) ?_
                refine ls_p (d := some 50) (by kernel_rfl) (by kernel_rfl) (p_ixs Try.underlying30 Try.sizeOf5 (by kernel_rfl) (by kernel_rfl) H) (fun x50 H => ?_)
                refine ls_fr (b := ⟨([x0, x1, undef, undef, (D_1 0), x20, x6, x7, undef, undef, undef, undef, undef, undef, undef, x0, x16, x17, undef, x19, x20, x20, x22, x6, x0, x25, x26, (D 6), (D 7), x0, x6, x31, x32, x33, x34, (D 14), x7, x0, x6, x39, x40, x41, x42, (D_1 8), (D_1 9), x0, x6, x47, x48, x7] ++ [x50, (D_1 16), (D_1 17), (D_1 18), (D_1 19), (D_1 20), (D_1 21), (D_1 22), (D_1 23), (D_1 24), (D_1 25), (D_1 26), (D_1 27), (D_1 28), (D 43), (D 44), (D 45), (D 46), (D 47), (D 48), (D 49), (D 50), (D 51), (D 52), undef, undef, undef, undef, undef, undef, undef, undef, undef, undef, undef, undef, undef, undef, undef, undef, undef, undef, undef, undef, undef, undef, undef, undef, undef, undef] ++ [undef, undef, undef, undef, undef, undef, undef, undef, undef, undef, undef, undef, undef, undef, undef, undef, undef, undef, undef, undef, undef, undef, undef, undef, undef, undef, undef, undef, undef, undef, undef, undef, undef, undef, undef, undef, undef, undef, undef, undef, undef, undef, undef, undef, undef]).toArray, []⟩) (by kernel_rfl) ?_
                refine ls_y (d := some 51) (by kernel_rfl) (by kernel_rfl) HA_5 (y_ld Try.isAgg5 (by kernel_rfl) H) (fun x51 H => ?_)
                refine ls_p (d := some 52) (by kernel_rfl) (by kernel_rfl) (p_sLt (by kernel_rfl) (by kernel_rfl) H) (fun x52 H => ?_)
                refine ls_move (x := x52) (by kernel_rfl) (by kernel_rfl) ?_
                refine ls_or [(), (), (), (), (), (), (), (), ()] (fun K a w => ∃ (D_2 : Nat → Value) (x62 : Value), a = ⟨([x0, x1, undef, undef, (D_1 0), x20, x6, x7, undef, undef, undef, undef, undef, undef, undef, x0, x16, x17, undef, x19, x20, x20, x22, x6, x0, x25, x26, (D 6), (D 7), x0, x6, x31, x32, x33, x34, (D 14), x7, x0, x6, x39, x40, x41, x42, (D_1 8), (D_1 9), x0, x6, x47, x48, x7] ++ [x50, x51, x52, x52, (D_2 0), (D_2 1), (D_2 2), (D_2 3), (D_2 4), (D_2 5), (D_2 6), (D_2 7), x62, (D_1 28), (D 43), (D 44), (D 45), (D 46), (D 47), (D 48), (D 49), (D 50), (D 51), (D 52), undef, undef, undef, undef, undef, undef, undef, undef, undef, undef, undef, undef, undef, undef, undef, undef, undef, undef, undef, undef, undef, undef, undef, undef, undef, undef] ++ [undef, undef, undef, undef, undef, undef, undef, undef, undef, undef, undef, undef, undef, undef, undef, undef, undef, undef, undef, undef, undef, undef, undef, undef, undef, undef, undef, undef, undef, undef, undef, undef, undef, undef, undef, undef, undef, undef, undef, undef, undef, undef, undef, undef, undef]).toArray, []⟩ ∧ At w0 w h_5 ∧ K x62) H (fun hb H => ?_) (fun hb H => ?_) ?_
                · refine ls_move (x := x0) (by rw [hb]; kernel_rfl) (by kernel_rfl) ?_
                  refine ls_move (x := x6) (by rw [hb]; kernel_rfl) (by kernel_rfl) ?_
                  refine ls_p (d := some 56) (by kernel_rfl) (by rw [hb]; kernel_rfl) (p_ixs Try.underlying22 Try.sizeOf30 (by kernel_rfl) (by kernel_rfl) H) (fun x56 H => ?_)
                  refine ls_fr (b := ⟨([x0, x1, undef, undef, (D_1 0), x20, x6, x7, undef, undef, undef, undef, undef, undef, undef, x0, x16, x17, undef, x19, x20, x20, x22, x6, x0, x25, x26, (D 6), (D 7), x0, x6, x31, x32, x33, x34, (D 14), x7, x0, x6, x39, x40, x41, x42, (D_1 8), (D_1 9), x0, x6, x47, x48, x7] ++ [x50, x51, x52, x52, x0, x6, x56, (D_1 22), (D_1 23), (D_1 24), (D_1 25), (D_1 26), (D_1 27), (D_1 28), (D 43), (D 44), (D 45), (D 46), (D 47), (D 48), (D 49), (D 50), (D 51), (D 52), undef, undef, undef, undef, undef, undef, undef, undef, undef, undef, undef, undef, undef, undef, undef, undef, undef, undef, undef, undef, undef, undef, undef, undef, undef, undef] ++ [undef, undef, undef, undef, undef, undef, undef, undef, undef, undef, undef, undef, undef, undef, undef, undef, undef, undef, undef, undef, undef, undef, undef, undef, undef, undef, undef, undef, undef, undef, undef, undef, undef, undef, undef, undef, undef, undef, undef, undef, undef, undef, undef, undef, undef]).toArray, []⟩) (by kernel_rfl) ?_
                  refine ls_y (d := some 57) (by kernel_rfl) (by rw [hb]; kernel_rfl) HA_5 (y_ld Try.isAgg30 (by kernel_rfl) H) (fun x57 H => ?_)
                  refine ls_move (x := x7) (by rw [hb]; kernel_rfl) (by kernel_rfl) ?_
                  refine ls_p (d := some 59) (by kernel_rfl) (by rw [hb]; kernel_rfl) (p_ixs Try.underlying30 Try.sizeOf5 (by kernel_rfl) (by kernel_rfl) H) (fun x59 H => ?_)
                  refine ls_y (d := some 60) (by kernel_rfl) (by rw [hb]; kernel_rfl) HA_5 (y_ld Try.isAgg5 (by kernel_rfl) H) (fun x60 H => ?_)
                  refine ls_p (d := some 61) (by kernel_rfl) (by rw [hb]; kernel_rfl) (p_sGt (by kernel_rfl) (by kernel_rfl) H) (fun x61 H => ?_)
                  refine ls_pick_f (y := x61) (by kernel_rfl) (by rw [hb]; kernel_rfl) (by kernel_rfl) ?_
                  refine ls_nil ?_
                  refine then_normal ?_
                  exact ⟨(fun i => ([x0, x6, x56, x57, x7, x59, x60, x61]).getD i undef), x61, by kernel_rfl, HA_5, H⟩
                · refine ls_skip (d := some 54) (by kernel_rfl) (by rw [hb]; kernel_rfl) ?_
                  refine ls_skip (d := some 55) (by kernel_rfl) (by rw [hb]; kernel_rfl) ?_
                  refine ls_skip (d := some 56) (by kernel_rfl) (by rw [hb]; kernel_rfl) ?_
                  refine ls_fr (b := ⟨([x0, x1, undef, undef, (D_1 0), x20, x6, x7, undef, undef, undef, undef, undef, undef, undef, x0, x16, x17, undef, x19, x20, x20, x22, x6, x0, x25, x26, (D 6), (D 7), x0, x6, x31, x32, x33, x34, (D 14), x7, x0, x6, x39, x40, x41, x42, (D_1 8), (D_1 9), x0, x6, x47, x48, x7] ++ [x50, x51, x52, x52, undef, undef, undef, (D_1 22), (D_1 23), (D_1 24), (D_1 25), (D_1 26), (D_1 27), (D_1 28), (D 43), (D 44), (D 45), (D 46), (D 47), (D 48), (D 49), (D 50), (D 51), (D 52), undef, undef, undef, undef, undef, undef, undef, undef, undef, undef, undef, undef, undef, undef, undef, undef, undef, undef, undef, undef, undef, undef, undef, undef, undef, undef] ++ [undef, undef, undef, undef, undef, undef, undef, undef, undef, undef, undef, undef, undef, undef, undef, undef, undef, undef, undef, undef, undef, undef, undef, undef, undef, undef, undef, undef, undef, undef, undef, undef, undef, undef, undef, undef, undef, undef, undef, undef, undef, undef, undef, undef, undef]).toArray, []⟩) (by kernel_rfl) ?_
                  refine ls_skip (d := some 57) (by kernel_rfl) (by rw [hb]; kernel_rfl) ?_
                  refine ls_skip (d := some 58) (by kernel_rfl) (by rw [hb]; kernel_rfl) ?_
                  refine ls_skip (d := some 59) (by kernel_rfl) (by rw [hb]; kernel_rfl) ?_
                  refine ls_skip (d := some 60) (by kernel_rfl) (by rw [hb]; kernel_rfl) ?_
                  refine ls_skip (d := some 61) (by kernel_rfl) (by rw [hb]; kernel_rfl) ?_
                  refine ls_pick_t (x := (.bool true)) (by kernel_rfl) (by rw [hb]; kernel_rfl) (by kernel_rfl) ?_
                  refine ls_nil ?_
                  refine then_normal ?_
                  exact ⟨(fun i => ([undef, undef, undef, undef, undef, undef, undef, undef]).getD i undef), (.bool true), by kernel_rfl, HA_5, H⟩
                · rintro _ w_6 ⟨D_2, x62, rfl, HA_6, H⟩
                  refine ls_nil ?_
                  refine then_normal ?_
                  refine fr_eq (b := ⟨([x0, x1, undef, undef, (D_1 0), x20, x6, x7, undef, undef, undef, undef, undef, undef, undef, x0, x16, x17, undef, x19, x20, x20, x22, x6, x0, x25, x26, (D 6), (D 7), x0, x6, x31, x32, x33, x34, (D 14), x7, x0, x6, x39, x40, x41, x42, (D_1 8), (D_1 9), x0, x6, x47, x48, x7] ++ [x50, x51, x52, x52, (D_2 0), (D_2 1), (D_2 2), (D_2 3), (D_2 4), (D_2 5), (D_2 6), (D_2 7), x62, (D_1 28), (D 43), (D 44), (D 45), (D 46), (D 47), (D 48), (D 49), (D 50), (D 51), (D 52), undef, undef, undef, undef, undef, undef, undef, undef, undef, undef, undef, undef, undef, undef, undef, undef, undef, undef, undef, undef, undef, undef, undef, undef, undef, undef] ++ [undef, undef, undef, undef, undef, undef, undef, undef, undef, undef, undef, undef, undef, undef, undef, undef, undef, undef, undef, undef, undef, undef, undef, undef, undef, undef, undef, undef, undef, undef, undef, undef, undef, undef, undef, undef, undef, undef, undef, undef, undef, undef, undef, undef, undef]).toArray, []⟩) (by kernel_rfl) ?_
                  refine wp_if rfl H (fun H => ?_) (fun H => ?_)
                  · refine wp_seq ?_
                    refine lwp_list ?_
                    refine ls_d (d := some 63) (by kernel_rfl) (by kernel_rfl) HA_6 (d_call (by kernel_rfl) (by kernel_rfl) H) (fun x63 h_6 w_7 H HA_7 => ?_)
                    refine ls_assign (x := x63) (by kernel_rfl) (by kernel_rfl) ?_
                    refine ls_nil ?_
                    refine then_normal ?_
                    refine fr_eq (b := ⟨([x0, x1, undef, undef, x63, x20, x6, x7, undef, undef, undef, undef, undef, undef, undef, x0, x16, x17, undef, x19, x20, x20, x22, x6, x0, x25, x26, (D 6), (D 7), x0, x6, x31, x32, x33, x34, (D 14), x7, x0, x6, x39, x40, x41, x42, (D_1 8), (D_1 9), x0, x6, x47, x48, x7] ++ [x50, x51, x52, x52, (D_2 0), (D_2 1), (D_2 2), (D_2 3), (D_2 4), (D_2 5), (D_2 6), (D_2 7), x62, x63, (D 43), (D 44), (D 45), (D 46), (D 47), (D 48), (D 49), (D 50), (D 51), (D 52), undef, undef, undef, undef, undef, undef, undef, undef, undef, undef, undef, undef, undef, undef, undef, undef, undef, undef, undef, undef, undef, undef, undef, undef, undef, undef] ++ [undef, undef, undef, undef, undef, undef, undef, undef, undef, undef, undef, undef, undef, undef, undef, undef, undef, undef, undef, undef, undef, undef, undef, undef, undef, undef, undef, undef, undef, undef, undef, undef, undef, undef, undef, undef, undef, undef, undef, undef, undef, undef, undef, undef, undef]).toArray, []⟩) (by kernel_rfl) ?_
                    refine wp_ret ?_
                    refine block_ret ?_
                    refine then_ret ?_
                    refine then_ret ?_
                    refine block_ret ?_
                    refine then_ret ?_
                    refine block_ret ?_
                    refine then_ret ?_
                    refine then_ret ?_
                    refine block_ret ?_
                    refine then_ret ?_
                    exact end1 (Try.results3) (by kernel_rfl) (by kernel_rfl) HA_7 H _ (.inr rfl)
                  · refine wp_skip ?_
                    refine block_normal ?_
                    refine then_normal ?_
                    refine fr_eq (b := ⟨([x0, x1, undef, undef, (D_1 0), x20, x6, x7, undef, undef, undef, undef, undef, undef, undef, x0, x16, x17, undef, x19, x20, x20, x22, x6, x0, x25, x26, (D 6), (D 7), x0, x6, x31, x32, x33, x34, (D 14), x7, x0, x6, x39, x40, x41, x42, (D_1 8), (D_1 9), x0, x6, x47, x48, x7] ++ [x50, x51, x52, x52, (D_2 0), (D_2 1), (D_2 2), (D_2 3), (D_2 4), (D_2 5), (D_2 6), (D_2 7), x62, (D_1 28), (D 43), (D 44), (D 45), (D 46), (D 47), (D 48), (D 49), (D 50), (D 51), (D 52), undef, undef, undef, undef, undef, undef, undef, undef, undef, undef, undef, undef, undef, undef, undef, undef, undef, undef, undef, undef, undef, undef, undef, undef, undef, undef] ++ [undef, undef, undef, undef, undef, undef, undef, undef, undef, undef, undef, undef, undef, undef, undef, undef, undef, undef, undef, undef, undef, undef, undef, undef, undef, undef, undef, undef, undef, undef, undef, undef, undef, undef, undef, undef, undef, undef, undef, undef, undef, undef, undef, undef, undef]).toArray, []⟩) (by kernel_rfl) ?_
                    refine lwp_list ?_
                    refine ls_move (x := x7) (by kernel_rfl) (by kernel_rfl) ?_
                    refine ls_p (d := some 44) (by kernel_rfl) (by kernel_rfl) (p_add (by kernel_rfl) (by kernel_rfl) H) (fun x44 H => ?_)
                    refine ls_assign (x := x44) (by kernel_rfl) (by kernel_rfl) ?_
                    refine ls_nil ?_
                    exact ⟨⟨(fun i => ([(D_1 0), x7, x0, x6, x39, x40, x41, x42, x7, x44, x0, x6, x47, x48, x7, x50, x51, x52, x52, (D_2 0), (D_2 1), (D_2 2), (D_2 3), (D_2 4), (D_2 5), (D_2 6), (D_2 7), x62, (D_1 28)]).getD i undef), x44, h_5, by kernel_rfl, HA_6, H.1⟩, loop_lt HA_6.heap HA_5.heap (by kernel_rfl) (by kernel_rfl) H.2⟩
              · refine wp_exit ?_
                refine then_exit ?_
                refine then_exit ?_
                refine block_exit ?_
                refine then_normal ?_
                refine fr_eq (b := ⟨([x0, x1, undef, undef, (D_1 0), x20, x6, x7, undef, undef, undef, undef, undef, undef, undef, x0, x16, x17, undef, x19, x20, x20, x22, x6, x0, x25, x26, (D 6), (D 7), x0, x6, x31, x32, x33, x34, (D 14), x7, x0, x6, x39, x40, x41, x42, (D_1 8), (D_1 9), (D_1 10), (D_1 11), (D_1 12), (D_1 13), (D_1 14)] ++ [(D_1 15), (D_1 16), (D_1 17), (D_1 18), (D_1 19), (D_1 20), (D_1 21), (D_1 22), (D_1 23), (D_1 24), (D_1 25), (D_1 26), (D_1 27), (D_1 28), (D 43), (D 44), (D 45), (D 46), (D 47), (D 48), (D 49), (D 50), (D 51), (D 52), undef, undef, undef, undef, undef, undef, undef, undef, undef, undef, undef, undef, undef, undef, undef, undef, undef, undef, undef, undef, undef, undef, undef, undef, undef, undef] ++ [undef, undef, undef, undef, undef, undef, undef, undef, undef, undef, undef, undef, undef, undef, undef, undef, undef, undef, undef, undef, undef, undef, undef, undef, undef, undef, undef, undef, undef, undef, undef, undef, undef, undef, undef, undef, undef, undef, undef, undef, undef, undef, undef, undef, undef]).toArray, []⟩) (by kernel_rfl) ?_
                refine lwp_list ?_
                refine ls_move (x := x20) (by kernel_rfl) (by kernel_rfl) ?_
                refine ls_d (d := some 65) (by kernel_rfl) (by kernel_rfl) HA_5 (d_slit (zc := #[]) Try.underlying30 Try.sizeOf5 (by decide) (.inl ⟨(by kernel_rfl), (by kernel_rfl)⟩) (by kernel_rfl) (by kernel_rfl) H) (fun x65 h_7 w_8 H HA_8 => ?_)
                refine ls_move (x := x0) (by kernel_rfl) (by kernel_rfl) ?_
                refine ls_move (x := x6) (by kernel_rfl) (by kernel_rfl) ?_
                refine ls_p (d := some 68) (by kernel_rfl) (by kernel_rfl) (p_ixs Try.underlying22 Try.sizeOf30 (by kernel_rfl) (by kernel_rfl) H) (fun x68 H => ?_)
                refine ls_y (d := some 69) (by kernel_rfl) (by kernel_rfl) HA_8 (y_ld Try.isAgg30 (by kernel_rfl) H) (fun x69 H => ?_)
                refine ls_fr (b := ⟨([x0, x1, undef, undef, (D_1 0), x20, x6, x7, undef, undef, undef, undef, undef, undef, undef, x0, x16, x17, undef, x19, x20, x20, x22, x6, x0, x25, x26, (D 6), (D 7), x0, x6, x31, x32, x33, x34, (D 14), x7, x0, x6, x39, x40, x41, x42, (D_1 8), (D_1 9), (D_1 10), (D_1 11), (D_1 12), (D_1 13), (D_1 14)] ++ [(D_1 15), (D_1 16), (D_1 17), (D_1 18), (D_1 19), (D_1 20), (D_1 21), (D_1 22), (D_1 23), (D_1 24), (D_1 25), (D_1 26), (D_1 27), (D_1 28), x20, x65, x0, x6, x68, x69, (D 49), (D 50), (D 51), (D 52), undef, undef, undef, undef, undef, undef, undef, undef, undef, undef, undef, undef, undef, undef, undef, undef, undef, undef, undef, undef, undef, undef, undef, undef, undef, undef] ++ [undef, undef, undef, undef, undef, undef, undef, undef, undef, undef, undef, undef, undef, undef, undef, undef, undef, undef, undef, undef, undef, undef, undef, undef, undef, undef, undef, undef, undef, undef, undef, undef, undef, undef, undef, undef, undef, undef, undef, undef, undef, undef, undef, undef, undef]).toArray, []⟩) (by kernel_rfl) ?_
                refine ls_d (d := some 70) (by kernel_rfl) (by kernel_rfl) HA_8 (d_app (z := #[.int .u8 0]) Try.underlying30 Try.underlying30 (.inl ⟨_, rfl⟩) Try.typeInfo5 (by kernel_rfl) Try.sizeOf5 Try.zeroValue5 (by kernel_rfl) (by kernel_rfl) (by kernel_rfl) H) (fun x70 h_8 w_9 H HA_9 => ?_)
                refine ls_d (d := some 71) (by kernel_rfl) (by kernel_rfl) HA_9 (d_slit (zc := #[.int .u8 0]) Try.underlying30 Try.sizeOf5 (by decide) (.inr ⟨by decide, _, Try.zeroValue5, (by kernel_rfl)⟩) (by kernel_rfl) (by kernel_rfl) H) (fun x71 h_9 w_10 H HA_10 => ?_)
                refine ls_d (d := some 72) (by kernel_rfl) (by kernel_rfl) HA_10 (d_app (z := #[.int .u8 0]) Try.underlying30 Try.underlying30 (.inl ⟨_, rfl⟩) Try.typeInfo5 (by kernel_rfl) Try.sizeOf5 Try.zeroValue5 (by kernel_rfl) (by kernel_rfl) (by kernel_rfl) H) (fun x72 h_10 w_11 H HA_11 => ?_)
                refine ls_d (d := some 73) (by kernel_rfl) (by kernel_rfl) HA_11 (d_call (by kernel_rfl) (by kernel_rfl) H) (fun x73 h_11 w_12 H HA_12 => ?_)
                refine ls_nil ?_
                refine block_normal ?_
                refine then_normal ?_
                refine fr_eq (b := ⟨([x0, x1, undef, undef, (D_1 0), x20, x6, x7, undef, undef, undef, undef, undef, undef, undef, x0, x16, x17, undef, x19, x20, x20, x22, x6, x0, x25, x26, (D 6), (D 7), x0, x6, x31, x32, x33, x34, (D 14), x7, x0, x6, x39, x40, x41, x42, (D_1 8), (D_1 9), (D_1 10), (D_1 11), (D_1 12), (D_1 13), (D_1 14)] ++ [(D_1 15), (D_1 16), (D_1 17), (D_1 18), (D_1 19), (D_1 20), (D_1 21), (D_1 22), (D_1 23), (D_1 24), (D_1 25), (D_1 26), (D_1 27), (D_1 28), x20, x65, x0, x6, x68, x69, x70, x71, x72, x73, undef, undef, undef, undef, undef, undef, undef, undef, undef, undef, undef, undef, undef, undef, undef, undef, undef, undef, undef, undef, undef, undef, undef, undef, undef, undef] ++ [undef, undef, undef, undef, undef, undef, undef, undef, undef, undef, undef, undef, undef, undef, undef, undef, undef, undef, undef, undef, undef, undef, undef, undef, undef, undef, undef, undef, undef, undef, undef, undef, undef, undef, undef, undef, undef, undef, undef, undef, undef, undef, undef, undef, undef]).toArray, []⟩) (by kernel_rfl) ?_
                refine lwp_list ?_
                refine ls_move (x := x6) (by kernel_rfl) (by kernel_rfl) ?_
                refine ls_p (d := some 28) (by kernel_rfl) (by kernel_rfl) (p_add (by kernel_rfl) (by kernel_rfl) H) (fun x28 H => ?_)
                refine ls_assign (x := x28) (by kernel_rfl) (by kernel_rfl) ?_
                refine ls_nil ?_
                exact ⟨⟨(fun i => ([(D_1 0), x7, x6, x0, x25, x26, x6, x28, x0, x6, x31, x32, x33, x34, (D 14), x7, x0, x6, x39, x40, x41, x42, (D_1 8), (D_1 9), (D_1 10), (D_1 11), (D_1 12), (D_1 13), (D_1 14), (D_1 15), (D_1 16), (D_1 17), (D_1 18), (D_1 19), (D_1 20), (D_1 21), (D_1 22), (D_1 23), (D_1 24), (D_1 25), (D_1 26), (D_1 27), (D_1 28), x20, x65, x0, x6, x68, x69, x70] ++ [x71, x72, x73]).getD i undef), x28, h_11, by kernel_rfl, HA_12, H.1⟩, loop_lt HA_12.heap HA_3.heap (by kernel_rfl) (by kernel_rfl) H.2⟩
        · refine wp_exit ?_
          refine then_exit ?_
          refine then_exit ?_
          refine block_exit ?_
          refine then_normal ?_
          refine fr_eq (b := ⟨([x0, x1, undef, undef, (D 0), x20, x6, (D 1), undef, undef, undef, undef, undef, undef, undef, x0, x16, x17, undef, x19, x20, x20, x22, x6, x0, x25, x26, (D 6), (D 7), (D 8), (D 9), (D 10), (D 11), (D 12), (D 13), (D 14), (D 15), (D 16), (D 17), (D 18), (D 19), (D 20), (D 21), (D 22), (D 23), (D 24), (D 25), (D 26), (D 27), (D 28)] ++ [(D 29), (D 30), (D 31), (D 32), (D 33), (D 34), (D 35), (D 36), (D 37), (D 38), (D 39), (D 40), (D 41), (D 42), (D 43), (D 44), (D 45), (D 46), (D 47), (D 48), (D 49), (D 50), (D 51), (D 52), undef, undef, undef, undef, undef, undef, undef, undef, undef, undef, undef, undef, undef, undef, undef, undef, undef, undef, undef, undef, undef, undef, undef, undef, undef, undef] ++ [undef, undef, undef, undef, undef, undef, undef, undef, undef, undef, undef, undef, undef, undef, undef, undef, undef, undef, undef, undef, undef, undef, undef, undef, undef, undef, undef, undef, undef, undef, undef, undef, undef, undef, undef, undef, undef, undef, undef, undef, undef, undef, undef, undef, undef]).toArray, []⟩) (by kernel_rfl) ?_
          refine wp_seq ?_
          refine lwp_list ?_
          refine ls_move (x := x1) (by kernel_rfl) (by kernel_rfl) ?_
          refine ls_p (d := some 75) (by kernel_rfl) (by kernel_rfl) (p_conv Try.underlying5 Try.underlying3 (by kernel_rfl) H) (fun x75 H => ?_)
          refine ls_p (d := some 76) (by kernel_rfl) (by kernel_rfl) (p_rem (by kernel_rfl) (by kernel_rfl) H) (fun x76 H => ?_)
          refine ls_p (d := some 77) (by kernel_rfl) (by kernel_rfl) (p_add (by kernel_rfl) (by kernel_rfl) H) (fun x77 H => ?_)
          refine ls_assign (x := x77) (by kernel_rfl) (by kernel_rfl) ?_
          refine ls_nil ?_
          refine then_normal ?_
          refine fr_eq (b := ⟨([x0, x1, undef, undef, (D 0), x20, x6, (D 1), x77, undef, undef, undef, undef, undef, undef, x0, x16, x17, undef, x19, x20, x20, x22, x6, x0, x25, x26, (D 6), (D 7), (D 8), (D 9), (D 10), (D 11), (D 12), (D 13), (D 14), (D 15), (D 16), (D 17), (D 18), (D 19), (D 20), (D 21), (D 22), (D 23), (D 24), (D 25), (D 26), (D 27), (D 28)] ++ [(D 29), (D 30), (D 31), (D 32), (D 33), (D 34), (D 35), (D 36), (D 37), (D 38), (D 39), (D 40), (D 41), (D 42), (D 43), (D 44), (D 45), (D 46), (D 47), (D 48), (D 49), (D 50), (D 51), (D 52), x1, x75, x76, x77, undef, undef, undef, undef, undef, undef, undef, undef, undef, undef, undef, undef, undef, undef, undef, undef, undef, undef, undef, undef, undef, undef] ++ [undef, undef, undef, undef, undef, undef, undef, undef, undef, undef, undef, undef, undef, undef, undef, undef, undef, undef, undef, undef, undef, undef, undef, undef, undef, undef, undef, undef, undef, undef, undef, undef, undef, undef, undef, undef, undef, undef, undef, undef, undef, undef, undef, undef, undef]).toArray, []⟩) (by kernel_rfl) ?_
          refine wp_seq ?_
          refine wp_seq ?_
          refine lwp_list ?_
          refine ls_assign (x := (.int .i64 0)) (by kernel_rfl) (by kernel_rfl) ?_
          refine ls_nil ?_
          refine then_normal ?_
          refine fr_eq (b := ⟨([x0, x1, undef, undef, (D 0), x20, x6, (D 1), x77, (.int .i64 0), undef, undef, undef, undef, undef, x0, x16, x17, undef, x19, x20, x20, x22, x6, x0, x25, x26, (D 6), (D 7), (D 8), (D 9), (D 10), (D 11), (D 12), (D 13), (D 14), (D 15), (D 16), (D 17), (D 18), (D 19), (D 20), (D 21), (D 22), (D 23), (D 24), (D 25), (D 26), (D 27), (D 28)] ++ [(D 29), (D 30), (D 31), (D 32), (D 33), (D 34), (D 35), (D 36), (D 37), (D 38), (D 39), (D 40), (D 41), (D 42), (D 43), (D 44), (D 45), (D 46), (D 47), (D 48), (D 49), (D 50), (D 51), (D 52), x1, x75, x76, x77, undef, undef, undef, undef, undef, undef, undef, undef, undef, undef, undef, undef, undef, undef, undef, undef, undef, undef, undef, undef, undef, undef] ++ [undef, undef, undef, undef, undef, undef, undef, undef, undef, undef, undef, undef, undef, undef, undef, undef, undef, undef, undef, undef, undef, undef, undef, undef, undef, undef, undef, undef, undef, undef, undef, undef, undef, undef, undef, undef, undef, undef, undef, undef, undef, undef, undef, undef, undef]).toArray, []⟩) (by kernel_rfl) ?_
          refine wp_block ?_
          obtain ⟨I_2, m_2, H0, HB⟩ := H
          refine wp_loop (fun a w => ∃ (D_3 : Nat → Value) (x9 : Value) (h_12 : Heap), a = ⟨([x0, x1, undef, undef, (D_3 0), x20, x6, (D 1), x77, x9, (D_3 1), (D_3 2), (D_3 3), undef, undef, x0, x16, x17, undef, x19, x20, x20, x22, x6, x0, x25, x26, (D 6), (D 7), (D 8), (D 9), (D 10), (D 11), (D 12), (D 13), (D 14), (D 15), (D 16), (D 17), (D 18), (D 19), (D 20), (D 21), (D 22), (D 23), (D 24), (D 25), (D 26), (D 27), (D 28)] ++ [(D 29), (D 30), (D 31), (D 32), (D 33), (D 34), (D 35), (D 36), (D 37), (D 38), (D 39), (D 40), (D 41), (D 42), (D 43), (D 44), (D 45), (D 46), (D 47), (D 48), (D 49), (D 50), (D 51), (D 52), x1, x75, x76, x77, (D_3 4), (D_3 5), (D_3 6), (D_3 7), (D_3 8), (D_3 9), (D_3 10), (D_3 11), (D_3 12), (D_3 13), (D_3 14), (D_3 15), (D_3 16), (D_3 17), (D_3 18), (D_3 19), (D_3 20), (D_3 21), (D_3 22), (D_3 23), (D_3 24), (D_3 25)] ++ [(D_3 26), (D_3 27), (D_3 28), (D_3 29), (D_3 30), (D_3 31), (D_3 32), (D_3 33), (D_3 34), (D_3 35), (D_3 36), (D_3 37), (D_3 38), (D_3 39), (D_3 40), (D_3 41), (D_3 42), (D_3 43), (D_3 44), (D_3 45), (D_3 46), (D_3 47), (D_3 48), (D_3 49), undef, undef, undef, undef, undef, undef, undef, undef, undef, undef, undef, undef, undef, undef, undef, undef, undef, undef, undef, undef, undef]).toArray, []⟩ ∧ At w0 w h_12 ∧ I_2 x9 h_12) (fun a w => m_2 (a.tmps.getD 9 undef) w.heap) ?_ ?_
          · exact ⟨(fun i => ([(D 0), undef, undef, undef, undef, undef, undef, undef, undef, undef, undef, undef, undef, undef, undef, undef, undef, undef, undef, undef, undef, undef, undef, undef, undef, undef, undef, undef, undef, undef, undef, undef, undef, undef, undef, undef, undef, undef, undef, undef, undef, undef, undef, undef, undef, undef, undef, undef, undef, undef]).getD i undef), (.int .i64 0), h_3, by kernel_rfl, HA_3, H0⟩
          · rintro _ w_13 ⟨D_3, x9, h_12, rfl, HA_13, HI⟩
            have H : betonylaw18_LdiscLines_l3 R x0 x20 x77 (fun x9' h' => I_2 x9' h' ∧ m_2 x9' h' < m_2 x9 h_12) x9 h_12 := HB x9 h_12 HI
            clear HB H0 HI
            unfold betonylaw18_LdiscLines_l3 at H
            refine wp_seq ?_
            refine wp_seq ?_
            refine lwp_list ?_
            refine ls_move (x := x9) (by kernel_rfl) (by kernel_rfl) ?_
            refine ls_move (x := x0) (by kernel_rfl) (by kernel_rfl) ?_
            refine ls_p (d := some 80) (by kernel_rfl) (by kernel_rfl) (p_len Try.underlying22 (by kernel_rfl) H) (fun x80 H => ?_)
            refine ls_p (d := some 81) (by kernel_rfl) (by kernel_rfl) (p_sLt (by kernel_rfl) (by kernel_rfl) H) (fun x81 H => ?_)
            refine ls_nil ?_
            refine then_normal ?_
            refine fr_eq (b := ⟨([x0, x1, undef, undef, (D_3 0), x20, x6, (D 1), x77, x9, (D_3 1), (D_3 2), (D_3 3), undef, undef, x0, x16, x17, undef, x19, x20, x20, x22, x6, x0, x25, x26, (D 6), (D 7), (D 8), (D 9), (D 10), (D 11), (D 12), (D 13), (D 14), (D 15), (D 16), (D 17), (D 18), (D 19), (D 20), (D 21), (D 22), (D 23), (D 24), (D 25), (D 26), (D 27), (D 28)] ++ [(D 29), (D 30), (D 31), (D 32), (D 33), (D 34), (D 35), (D 36), (D 37), (D 38), (D 39), (D 40), (D 41), (D 42), (D 43), (D 44), (D 45), (D 46), (D 47), (D 48), (D 49), (D 50), (D 51), (D 52), x1, x75, x76, x77, x9, x0, x80, x81, (D_3 8), (D_3 9), (D_3 10), (D_3 11), (D_3 12), (D_3 13), (D_3 14), (D_3 15), (D_3 16), (D_3 17), (D_3 18), (D_3 19), (D_3 20), (D_3 21), (D_3 22), (D_3 23), (D_3 24), (D_3 25)] ++ [(D_3 26), (D_3 27), (D_3 28), (D_3 29), (D_3 30), (D_3 31), (D_3 32), (D_3 33), (D_3 34), (D_3 35), (D_3 36), (D_3 37), (D_3 38), (D_3 39), (D_3 40), (D_3 41), (D_3 42), (D_3 43), (D_3 44), (D_3 45), (D_3 46), (D_3 47), (D_3 48), (D_3 49), undef, undef, undef, undef, undef, undef, undef, undef, undef, undef, undef, undef, undef, undef, undef, undef, undef, undef, undef, undef, undef]).toArray, []⟩) (by kernel_rfl) ?_
            refine wp_if rfl H (fun H => ?_) (fun H => ?_)
            · refine wp_skip ?_
              refine then_normal ?_
              refine fr_eq (b := ⟨([x0, x1, undef, undef, (D_3 0), x20, x6, (D 1), x77, x9, (D_3 1), (D_3 2), (D_3 3), undef, undef, x0, x16, x17, undef, x19, x20, x20, x22, x6, x0, x25, x26, (D 6), (D 7), (D 8), (D 9), (D 10), (D 11), (D 12), (D 13), (D 14), (D 15), (D 16), (D 17), (D 18), (D 19), (D 20), (D 21), (D 22), (D 23), (D 24), (D 25), (D 26), (D 27), (D 28)] ++ [(D 29), (D 30), (D 31), (D 32), (D 33), (D 34), (D 35), (D 36), (D 37), (D 38), (D 39), (D 40), (D 41), (D 42), (D 43), (D 44), (D 45), (D 46), (D 47), (D 48), (D 49), (D 50), (D 51), (D 52), x1, x75, x76, x77, x9, x0, x80, x81, (D_3 8), (D_3 9), (D_3 10), (D_3 11), (D_3 12), (D_3 13), (D_3 14), (D_3 15), (D_3 16), (D_3 17), (D_3 18), (D_3 19), (D_3 20), (D_3 21), (D_3 22), (D_3 23), (D_3 24), (D_3 25)] ++ [(D_3 26), (D_3 27), (D_3 28), (D_3 29), (D_3 30), (D_3 31), (D_3 32), (D_3 33), (D_3 34), (D_3 35), (D_3 36), (D_3 37), (D_3 38), (D_3 39), (D_3 40), (D_3 41), (D_3 42), (D_3 43), (D_3 44), (D_3 45), (D_3 46), (D_3 47), (D_3 48), (D_3 49), undef, undef, undef, undef, undef, undef, undef, undef, undef, undef, undef, undef, undef, undef, undef, undef, undef, undef, undef, undef, undef]).toArray, []⟩) (by kernel_rfl) ?_
              refine wp_seq ?_
              refine wp_block ?_
              refine wp_seq ?_
              refine lwp_list ?_
              refine ls_assign (x := (.slice none 0 0)) (by kernel_rfl) (by kernel_rfl) ?_
              refine ls_nil ?_
              refine then_normal ?_
              refine fr_eq (b := ⟨([x0, x1, undef, undef, (D_3 0), x20, x6, (D 1), x77, x9, (.slice none 0 0), (D_3 2), (D_3 3), undef, undef, x0, x16, x17, undef, x19, x20, x20, x22, x6, x0, x25, x26, (D 6), (D 7), (D 8), (D 9), (D 10), (D 11), (D 12), (D 13), (D 14), (D 15), (D 16), (D 17), (D 18), (D 19), (D 20), (D 21), (D 22), (D 23), (D 24), (D 25), (D 26), (D 27), (D 28)] ++ [(D 29), (D 30), (D 31), (D 32), (D 33), (D 34), (D 35), (D 36), (D 37), (D 38), (D 39), (D 40), (D 41), (D 42), (D 43), (D 44), (D 45), (D 46), (D 47), (D 48), (D 49), (D 50), (D 51), (D 52), x1, x75, x76, x77, x9, x0, x80, x81, (D_3 8), (D_3 9), (D_3 10), (D_3 11), (D_3 12), (D_3 13), (D_3 14), (D_3 15), (D_3 16), (D_3 17), (D_3 18), (D_3 19), (D_3 20), (D_3 21), (D_3 22), (D_3 23), (D_3 24), (D_3 25)] ++ [(D_3 26), (D_3 27), (D_3 28), (D_3 29), (D_3 30), (D_3 31), (D_3 32), (D_3 33), (D_3 34), (D_3 35), (D_3 36), (D_3 37), (D_3 38), (D_3 39), (D_3 40), (D_3 41), (D_3 42), (D_3 43), (D_3 44), (D_3 45), (D_3 46), (D_3 47), (D_3 48), (D_3 49), undef, undef, undef, undef, undef, undef, undef, undef, undef, undef, undef, undef, undef, undef, undef, undef, undef, undef, undef, undef, undef]).toArray, []⟩) (by kernel_rfl) ?_
              refine wp_seq ?_
              refine wp_block ?_
              obtain ⟨I_3, m_3, H0, HB⟩ := H
              refine wp_loop (fun a w => ∃ (D_4 : Nat → Value) (x10 : Value) (h_13 : Heap), a = ⟨([x0, x1, undef, undef, (D_4 0), x20, x6, (D 1), x77, x9, x10, (D_4 1), (D_4 2), undef, undef, x0, x16, x17, undef, x19, x20, x20, x22, x6, x0, x25, x26, (D 6), (D 7), (D 8), (D 9), (D 10), (D 11), (D 12), (D 13), (D 14), (D 15), (D 16), (D 17), (D 18), (D 19), (D 20), (D 21), (D 22), (D 23), (D 24), (D 25), (D 26), (D 27), (D 28)] ++ [(D 29), (D 30), (D 31), (D 32), (D 33), (D 34), (D 35), (D 36), (D 37), (D 38), (D 39), (D 40), (D 41), (D 42), (D 43), (D 44), (D 45), (D 46), (D 47), (D 48), (D 49), (D 50), (D 51), (D 52), x1, x75, x76, x77, x9, x0, x80, x81, (D_3 8), (D_3 9), (D_4 3), (D_4 4), (D_4 5), (D_4 6), (D_4 7), (D_4 8), (D_4 9), (D_4 10), (D_4 11), (D_4 12), (D_4 13), (D_4 14), (D_4 15), (D_4 16), (D_4 17), (D_4 18)] ++ [(D_4 19), (D_4 20), (D_4 21), (D_4 22), (D_4 23), (D_4 24), (D_4 25), (D_4 26), (D_4 27), (D_4 28), (D_4 29), (D_4 30), (D_4 31), (D_3 39), (D_3 40), (D_3 41), (D_3 42), (D_3 43), (D_3 44), (D_3 45), (D_3 46), (D_3 47), (D_3 48), (D_3 49), undef, undef, undef, undef, undef, undef, undef, undef, undef, undef, undef, undef, undef, undef, undef, undef, undef, undef, undef, undef, undef]).toArray, []⟩ ∧ At w0 w h_13 ∧ I_3 x10 h_13) (fun a w => m_3 (a.tmps.getD 10 undef) w.heap) ?_ ?_
              · exact ⟨(fun i => ([(D_3 0), (D_3 2), (D_3 3), (D_3 10), (D_3 11), (D_3 12), (D_3 13), (D_3 14), (D_3 15), (D_3 16), (D_3 17), (D_3 18), (D_3 19), (D_3 20), (D_3 21), (D_3 22), (D_3 23), (D_3 24), (D_3 25), (D_3 26), (D_3 27), (D_3 28), (D_3 29), (D_3 30), (D_3 31), (D_3 32), (D_3 33), (D_3 34), (D_3 35), (D_3 36), (D_3 37), (D_3 38)]).getD i undef), (.slice none 0 0), h_12, by kernel_rfl, HA_13, H0⟩
              · rintro _ w_14 ⟨D_4, x10, h_13, rfl, HA_14, HI⟩
                have H : betonylaw18_LdiscLines_l4 R (fun x9' h' => I_2 x9' h' ∧ m_2 x9' h' < m_2 x9 h_12) x0 x20 x77 x9 (fun x10' h' => I_3 x10' h' ∧ m_3 x10' h' < m_3 x10 h_13) x10 h_13 := HB x10 h_13 HI
                clear HB H0 HI
                unfold betonylaw18_LdiscLines_l4 at H
                refine wp_seq ?_
                refine wp_seq ?_
                refine lwp_list ?_
                refine ls_move (x := x10) (by kernel_rfl) (by kernel_rfl) ?_
                refine ls_p (d := some 85) (by kernel_rfl) (by kernel_rfl) (p_len Try.underlying30 (by kernel_rfl) H) (fun x85 H => ?_)
                refine ls_move (x := x0) (by kernel_rfl) (by kernel_rfl) ?_
                refine ls_move (x := x9) (by kernel_rfl) (by kernel_rfl) ?_
                refine ls_p (d := some 88) (by kernel_rfl) (by kernel_rfl) (p_ixs Try.underlying22 Try.sizeOf30 (by kernel_rfl) (by kernel_rfl) H) (fun x88 H => ?_)
                refine ls_y (d := some 89) (by kernel_rfl) (by kernel_rfl) HA_14 (y_ld Try.isAgg30 (by kernel_rfl) H) (fun x89 H => ?_)
                refine ls_fr (b := ⟨([x0, x1, undef, undef, (D_4 0), x20, x6, (D 1), x77, x9, x10, (D_4 1), (D_4 2), undef, undef, x0, x16, x17, undef, x19, x20, x20, x22, x6, x0, x25, x26, (D 6), (D 7), (D 8), (D 9), (D 10), (D 11), (D 12), (D 13), (D 14), (D 15), (D 16), (D 17), (D 18), (D 19), (D 20), (D 21), (D 22), (D 23), (D 24), (D 25), (D 26), (D 27), (D 28)] ++ [(D 29), (D 30), (D 31), (D 32), (D 33), (D 34), (D 35), (D 36), (D 37), (D 38), (D 39), (D 40), (D 41), (D 42), (D 43), (D 44), (D 45), (D 46), (D 47), (D 48), (D 49), (D 50), (D 51), (D 52), x1, x75, x76, x77, x9, x0, x80, x81, (D_3 8), (D_3 9), x10, x85, x0, x9, x88, x89, (D_4 9), (D_4 10), (D_4 11), (D_4 12), (D_4 13), (D_4 14), (D_4 15), (D_4 16), (D_4 17), (D_4 18)] ++ [(D_4 19), (D_4 20), (D_4 21), (D_4 22), (D_4 23), (D_4 24), (D_4 25), (D_4 26), (D_4 27), (D_4 28), (D_4 29), (D_4 30), (D_4 31), (D_3 39), (D_3 40), (D_3 41), (D_3 42), (D_3 43), (D_3 44), (D_3 45), (D_3 46), (D_3 47), (D_3 48), (D_3 49), undef, undef, undef, undef, undef, undef, undef, undef, undef, undef, undef, undef, undef, undef, undef, undef, undef, undef, undef, undef, undef]).toArray, []⟩) (by kernel_rfl) ?_
                refine ls_p (d := some 90) (by kernel_rfl) (by kernel_rfl) (p_len Try.underlying30 (by kernel_rfl) H) (fun x90 H => ?_)
                refine ls_p (d := some 91) (by kernel_rfl) (by kernel_rfl) (p_sLe (by kernel_rfl) (by kernel_rfl) H) (fun x91 H => ?_)
                refine ls_nil ?_
                refine then_normal ?_
                refine fr_eq (b := ⟨([x0, x1, undef, undef, (D_4 0), x20, x6, (D 1), x77, x9, x10, (D_4 1), (D_4 2), undef, undef, x0, x16, x17, undef, x19, x20, x20, x22, x6, x0, x25, x26, (D 6), (D 7), (D 8), (D 9), (D 10), (D 11), (D 12), (D 13), (D 14), (D 15), (D 16), (D 17), (D 18), (D 19), (D 20), (D 21), (D 22), (D 23), (D 24), (D 25), (D 26), (D 27), (D 28)] ++ [(D 29), (D 30), (D 31), (D 32), (D 33), (D 34), (D 35), (D 36), (D 37), (D 38), (D 39), (D 40), (D 41), (D 42), (D 43), (D 44), (D 45), (D 46), (D 47), (D 48), (D 49), (D 50), (D 51), (D 52), x1, x75, x76, x77, x9, x0, x80, x81, (D_3 8), (D_3 9), x10, x85, x0, x9, x88, x89, x90, x91, (D_4 11), (D_4 12), (D_4 13), (D_4 14), (D_4 15), (D_4 16), (D_4 17), (D_4 18)] ++ [(D_4 19), (D_4 20), (D_4 21), (D_4 22), (D_4 23), (D_4 24), (D_4 25), (D_4 26), (D_4 27), (D_4 28), (D_4 29), (D_4 30), (D_4 31), (D_3 39), (D_3 40), (D_3 41), (D_3 42), (D_3 43), (D_3 44), (D_3 45), (D_3 46), (D_3 47), (D_3 48), (D_3 49), undef, undef, undef, undef, undef, undef, undef, undef, undef, undef, undef, undef, undef, undef, undef, undef, undef, undef, undef, undef, undef]).toArray, []⟩) (by kernel_rfl) ?_
                refine wp_if rfl H (fun H => ?_) (fun H => ?_)
                · refine wp_skip ?_
                  refine then_normal ?_
                  refine fr_eq (b := ⟨([x0, x1, undef, undef, (D_4 0), x20, x6, (D 1), x77, x9, x10, (D_4 1), (D_4 2), undef, undef, x0, x16, x17, undef, x19, x20, x20, x22, x6, x0, x25, x26, (D 6), (D 7), (D 8), (D 9), (D 10), (D 11), (D 12), (D 13), (D 14), (D 15), (D 16), (D 17), (D 18), (D 19), (D 20), (D 21), (D 22), (D 23), (D 24), (D 25), (D 26), (D 27), (D 28)] ++ [(D 29), (D 30), (D 31), (D 32), (D 33), (D 34), (D 35), (D 36), (D 37), (D 38), (D 39), (D 40), (D 41), (D 42), (D 43), (D 44), (D 45), (D 46), (D 47), (D 48), (D 49), (D 50), (D 51), (D 52), x1, x75, x76, x77, x9, x0, x80, x81, (D_3 8), (D_3 9), x10, x85, x0, x9, x88, x89, x90, x91, (D_4 11), (D_4 12), (D_4 13), (D_4 14), (D_4 15), (D_4 16), (D_4 17), (D_4 18)] ++ [(D_4 19), (D_4 20), (D_4 21), (D_4 22), (D_4 23), (D_4 24), (D_4 25), (D_4 26), (D_4 27), (D_4 28), (D_4 29), (D_4 30), (D_4 31), (D_3 39), (D_3 40), (D_3 41), (D_3 42), (D_3 43), (D_3 44), (D_3 45), (D_3 46), (D_3 47), (D_3 48), (D_3 49), undef, undef, undef, undef, undef, undef, undef, undef, undef, undef, undef, undef, undef, undef, undef, undef, undef, undef, undef, undef, undef]).toArray, []⟩) (by kernel_rfl) ?_
                  refine wp_block ?_
                  refine wp_seq ?_
                  refine lwp_list ?_
                  refine ls_move (x := x20) (by kernel_rfl) (by kernel_rfl) ?_
                  refine ls_move (x := x77) (by kernel_rfl) (by kernel_rfl) ?_
                  refine ls_d (d := some 95) (by kernel_rfl) (by kernel_rfl) HA_14 (d_call (by kernel_rfl) (by kernel_rfl) H) (fun x95 h_14 w_15 H HA_15 => ?_)
                  refine ls_move (x := x95) (by kernel_rfl) (by kernel_rfl) ?_
                  refine ls_p (d := some 96) (by kernel_rfl) (by kernel_rfl) (p_tup (by kernel_rfl) H) (fun x96 H => ?_)
                  refine ls_p (d := some 97) (by kernel_rfl) (by kernel_rfl) (p_tup (by kernel_rfl) H) (fun x97 H => ?_)
                  refine ls_fr (b := ⟨([x0, x1, undef, undef, (D_4 0), x20, x6, (D 1), x77, x9, x10, (D_4 1), (D_4 2), undef, undef, x0, x16, x17, undef, x19, x20, x20, x22, x6, x0, x25, x26, (D 6), (D 7), (D 8), (D 9), (D 10), (D 11), (D 12), (D 13), (D 14), (D 15), (D 16), (D 17), (D 18), (D 19), (D 20), (D 21), (D 22), (D 23), (D 24), (D 25), (D 26), (D 27), (D 28)] ++ [(D 29), (D 30), (D 31), (D 32), (D 33), (D 34), (D 35), (D 36), (D 37), (D 38), (D 39), (D 40), (D 41), (D 42), (D 43), (D 44), (D 45), (D 46), (D 47), (D 48), (D 49), (D 50), (D 51), (D 52), x1, x75, x76, x77, x9, x0, x80, x81, (D_3 8), (D_3 9), x10, x85, x0, x9, x88, x89, x90, x91, x95, x20, x77, x95, x96, x97, (D_4 17), (D_4 18)] ++ [(D_4 19), (D_4 20), (D_4 21), (D_4 22), (D_4 23), (D_4 24), (D_4 25), (D_4 26), (D_4 27), (D_4 28), (D_4 29), (D_4 30), (D_4 31), (D_3 39), (D_3 40), (D_3 41), (D_3 42), (D_3 43), (D_3 44), (D_3 45), (D_3 46), (D_3 47), (D_3 48), (D_3 49), undef, undef, undef, undef, undef, undef, undef, undef, undef, undef, undef, undef, undef, undef, undef, undef, undef, undef, undef, undef, undef]).toArray, []⟩) (by kernel_rfl) ?_
                  refine ls_assign (x := x96) (by kernel_rfl) (by kernel_rfl) ?_
                  refine ls_assign (x := x97) (by kernel_rfl) (by kernel_rfl) ?_
                  refine ls_nil ?_
                  refine then_normal ?_
                  refine fr_eq (b := ⟨([x0, x1, undef, undef, (D_4 0), x20, x6, (D 1), x77, x9, x10, x96, x97, undef, undef, x0, x16, x17, undef, x19, x20, x20, x22, x6, x0, x25, x26, (D 6), (D 7), (D 8), (D 9), (D 10), (D 11), (D 12), (D 13), (D 14), (D 15), (D 16), (D 17), (D 18), (D 19), (D 20), (D 21), (D 22), (D 23), (D 24), (D 25), (D 26), (D 27), (D 28)] ++ [(D 29), (D 30), (D 31), (D 32), (D 33), (D 34), (D 35), (D 36), (D 37), (D 38), (D 39), (D 40), (D 41), (D 42), (D 43), (D 44), (D 45), (D 46), (D 47), (D 48), (D 49), (D 50), (D 51), (D 52), x1, x75, x76, x77, x9, x0, x80, x81, (D_3 8), (D_3 9), x10, x85, x0, x9, x88, x89, x90, x91, x95, x20, x77, x95, x96, x97, (D_4 17), (D_4 18)] ++ [(D_4 19), (D_4 20), (D_4 21), (D_4 22), (D_4 23), (D_4 24), (D_4 25), (D_4 26), (D_4 27), (D_4 28), (D_4 29), (D_4 30), (D_4 31), (D_3 39), (D_3 40), (D_3 41), (D_3 42), (D_3 43), (D_3 44), (D_3 45), (D_3 46), (D_3 47), (D_3 48), (D_3 49), undef, undef, undef, undef, undef, undef, undef, undef, undef, undef, undef, undef, undef, undef, undef, undef, undef, undef, undef, undef, undef]).toArray, []⟩) (by kernel_rfl) ?_
                  refine wp_seq ?_
                  refine wp_seq ?_
                  refine lwp_list ?_
                  refine ls_move (x := x96) (by kernel_rfl) (by kernel_rfl) ?_
                  refine ls_p (d := some 99) (by kernel_rfl) (by kernel_rfl) (p_len Try.underlying30 (by kernel_rfl) H) (fun x99 H => ?_)
                  refine ls_p (d := some 100) (by kernel_rfl) (by kernel_rfl) (p_sEq (by kernel_rfl) (by kernel_rfl) H) (fun x100 H => ?_)
                  refine ls_move (x := x100) (by kernel_rfl) (by kernel_rfl) ?_
                  refine ls_or [(), ()] (fun K a w => ∃ (D_5 : Nat → Value) (x103 : Value), a = ⟨([x0, x1, undef, undef, (D_4 0), x20, x6, (D 1), x77, x9, x10, x96, x97, undef, undef, x0, x16, x17, undef, x19, x20, x20, x22, x6, x0, x25, x26, (D 6), (D 7), (D 8), (D 9), (D 10), (D 11), (D 12), (D 13), (D 14), (D 15), (D 16), (D 17), (D 18), (D 19), (D 20), (D 21), (D 22), (D 23), (D 24), (D 25), (D 26), (D 27), (D 28)] ++ [(D 29), (D 30), (D 31), (D 32), (D 33), (D 34), (D 35), (D 36), (D 37), (D 38), (D 39), (D 40), (D 41), (D 42), (D 43), (D 44), (D 45), (D 46), (D 47), (D 48), (D 49), (D 50), (D 51), (D 52), x1, x75, x76, x77, x9, x0, x80, x81, (D_3 8), (D_3 9), x10, x85, x0, x9, x88, x89, x90, x91, x95, x20, x77, x95, x96, x97, x96, x99] ++ [x100, x100, (D_5 0), x103, (D_4 23), (D_4 24), (D_4 25), (D_4 26), (D_4 27), (D_4 28), (D_4 29), (D_4 30), (D_4 31), (D_3 39), (D_3 40), (D_3 41), (D_3 42), (D_3 43), (D_3 44), (D_3 45), (D_3 46), (D_3 47), (D_3 48), (D_3 49), undef, undef, undef, undef, undef, undef, undef, undef, undef, undef, undef, undef, undef, undef, undef, undef, undef, undef, undef, undef, undef]).toArray, []⟩ ∧ At w0 w h_14 ∧ K x103) H (fun hb_2 H => ?_) (fun hb_2 H => ?_) ?_
                  · refine ls_move (x := x97) (by rw [hb_2]; kernel_rfl) (by kernel_rfl) ?_
                    refine ls_pick_f (y := x97) (by kernel_rfl) (by rw [hb_2]; kernel_rfl) (by kernel_rfl) ?_
                    refine ls_nil ?_
                    refine then_normal ?_
                    exact ⟨(fun i => ([x97]).getD i undef), x97, by kernel_rfl, HA_15, H⟩
                  · refine ls_skip (d := some 102) (by kernel_rfl) (by rw [hb_2]; kernel_rfl) ?_
                    refine ls_pick_t (x := (.bool true)) (by kernel_rfl) (by rw [hb_2]; kernel_rfl) (by kernel_rfl) ?_
                    refine ls_nil ?_
                    refine then_normal ?_
                    exact ⟨(fun i => ([undef]).getD i undef), (.bool true), by kernel_rfl, HA_15, H⟩
                  · rintro _ w_16 ⟨D_5, x103, rfl, HA_16, H⟩
                    refine ls_move (x := x103) (by kernel_rfl) (by kernel_rfl) ?_
                    refine ls_or [(), (), (), (), ()] (fun K a w => ∃ (D_6 : Nat → Value) (x109 : Value), a = ⟨([x0, x1, undef, undef, (D_4 0), x20, x6, (D 1), x77, x9, x10, x96, x97, undef, undef, x0, x16, x17, undef, x19, x20, x20, x22, x6, x0, x25, x26, (D 6), (D 7), (D 8), (D 9), (D 10), (D 11), (D 12), (D 13), (D 14), (D 15), (D 16), (D 17), (D 18), (D 19), (D 20), (D 21), (D 22), (D 23), (D 24), (D 25), (D 26), (D 27), (D 28)] ++ [(D 29), (D 30), (D 31), (D 32), (D 33), (D 34), (D 35), (D 36), (D 37), (D 38), (D 39), (D 40), (D 41), (D 42), (D 43), (D 44), (D 45), (D 46), (D 47), (D 48), (D 49), (D 50), (D 51), (D 52), x1, x75, x76, x77, x9, x0, x80, x81, (D_3 8), (D_3 9), x10, x85, x0, x9, x88, x89, x90, x91, x95, x20, x77, x95, x96, x97, x96, x99] ++ [x100, x100, (D_5 0), x103, x103, (D_6 0), (D_6 1), (D_6 2), (D_6 3), x109, (D_4 29), (D_4 30), (D_4 31), (D_3 39), (D_3 40), (D_3 41), (D_3 42), (D_3 43), (D_3 44), (D_3 45), (D_3 46), (D_3 47), (D_3 48), (D_3 49), undef, undef, undef, undef, undef, undef, undef, undef, undef, undef, undef, undef, undef, undef, undef, undef, undef, undef, undef, undef, undef]).toArray, []⟩ ∧ At w0 w h_14 ∧ K x109) H (fun hb_1 H => ?_) (fun hb_1 H => ?_) ?_
                    · refine ls_move (x := x96) (by rw [hb_1]; kernel_rfl) (by kernel_rfl) ?_
                      refine ls_p (d := some 106) (by kernel_rfl) (by rw [hb_1]; kernel_rfl) (p_len Try.underlying30 (by kernel_rfl) H) (fun x106 H => ?_)
                      refine ls_move (x := x77) (by rw [hb_1]; kernel_rfl) (by kernel_rfl) ?_
                      refine ls_p (d := some 108) (by kernel_rfl) (by rw [hb_1]; kernel_rfl) (p_sGt (by kernel_rfl) (by kernel_rfl) H) (fun x108 H => ?_)
                      refine ls_pick_f (y := x108) (by kernel_rfl) (by rw [hb_1]; kernel_rfl) (by kernel_rfl) ?_
                      refine ls_nil ?_
                      refine then_normal ?_
                      exact ⟨(fun i => ([x96, x106, x77, x108]).getD i undef), x108, by kernel_rfl, HA_16, H⟩
                    · refine ls_skip (d := some 105) (by kernel_rfl) (by rw [hb_1]; kernel_rfl) ?_
                      refine ls_skip (d := some 106) (by kernel_rfl) (by rw [hb_1]; kernel_rfl) ?_
                      refine ls_skip (d := some 107) (by kernel_rfl) (by rw [hb_1]; kernel_rfl) ?_
                      refine ls_skip (d := some 108) (by kernel_rfl) (by rw [hb_1]; kernel_rfl) ?_
                      refine ls_pick_t (x := (.bool true)) (by kernel_rfl) (by rw [hb_1]; kernel_rfl) (by kernel_rfl) ?_
                      refine ls_nil ?_
                      refine then_normal ?_
                      exact ⟨(fun i => ([undef, undef, undef, undef]).getD i undef), (.bool true), by kernel_rfl, HA_16, H⟩
                    · rintro _ w_17 ⟨D_6, x109, rfl, HA_17, H⟩
                      refine ls_nil ?_
                      refine then_normal ?_
                      refine fr_eq (b := ⟨([x0, x1, undef, undef, (D_4 0), x20, x6, (D 1), x77, x9, x10, x96, x97, undef, undef, x0, x16, x17, undef, x19, x20, x20, x22, x6, x0, x25, x26, (D 6), (D 7), (D 8), (D 9), (D 10), (D 11), (D 12), (D 13), (D 14), (D 15), (D 16), (D 17), (D 18), (D 19), (D 20), (D 21), (D 22), (D 23), (D 24), (D 25), (D 26), (D 27), (D 28)] ++ [(D 29), (D 30), (D 31), (D 32), (D 33), (D 34), (D 35), (D 36), (D 37), (D 38), (D 39), (D 40), (D 41), (D 42), (D 43), (D 44), (D 45), (D 46), (D 47), (D 48), (D 49), (D 50), (D 51), (D 52), x1, x75, x76, x77, x9, x0, x80, x81, (D_3 8), (D_3 9), x10, x85, x0, x9, x88, x89, x90, x91, x95, x20, x77, x95, x96, x97, x96, x99] ++ [x100, x100, (D_5 0), x103, x103, (D_6 0), (D_6 1), (D_6 2), (D_6 3), x109, (D_4 29), (D_4 30), (D_4 31), (D_3 39), (D_3 40), (D_3 41), (D_3 42), (D_3 43), (D_3 44), (D_3 45), (D_3 46), (D_3 47), (D_3 48), (D_3 49), undef, undef, undef, undef, undef, undef, undef, undef, undef, undef, undef, undef, undef, undef, undef, undef, undef, undef, undef, undef, undef]).toArray, []⟩) (by kernel_rfl) ?_
                      refine wp_if rfl H (fun H => ?_) (fun H => ?_)
                      · refine wp_seq ?_
                        refine lwp_list ?_
                        refine ls_assign (x := (.bool false)) (by kernel_rfl) (by kernel_rfl) ?_
                        refine ls_nil ?_
                        refine then_normal ?_
                        refine fr_eq (b := ⟨([x0, x1, undef, undef, (.bool false), x20, x6, (D 1), x77, x9, x10, x96, x97, undef, undef, x0, x16, x17, undef, x19, x20, x20, x22, x6, x0, x25, x26, (D 6), (D 7), (D 8), (D 9), (D 10), (D 11), (D 12), (D 13), (D 14), (D 15), (D 16), (D 17), (D 18), (D 19), (D 20), (D 21), (D 22), (D 23), (D 24), (D 25), (D 26), (D 27), (D 28)] ++ [(D 29), (D 30), (D 31), (D 32), (D 33), (D 34), (D 35), (D 36), (D 37), (D 38), (D 39), (D 40), (D 41), (D 42), (D 43), (D 44), (D 45), (D 46), (D 47), (D 48), (D 49), (D 50), (D 51), (D 52), x1, x75, x76, x77, x9, x0, x80, x81, (D_3 8), (D_3 9), x10, x85, x0, x9, x88, x89, x90, x91, x95, x20, x77, x95, x96, x97, x96, x99] ++ [x100, x100, (D_5 0), x103, x103, (D_6 0), (D_6 1), (D_6 2), (D_6 3), x109, (D_4 29), (D_4 30), (D_4 31), (D_3 39), (D_3 40), (D_3 41), (D_3 42), (D_3 43), (D_3 44), (D_3 45), (D_3 46), (D_3 47), (D_3 48), (D_3 49), undef, undef, undef, undef, undef, undef, undef, undef, undef, undef, undef, undef, undef, undef, undef, undef, undef, undef, undef, undef, undef]).toArray, []⟩) (by kernel_rfl) ?_
                        refine wp_ret ?_
                        refine then_ret ?_
                        refine block_ret ?_
                        refine then_ret ?_
                        refine block_ret ?_
                        refine then_ret ?_
                        refine block_ret ?_
                        refine then_ret ?_
                        refine then_ret ?_
                        refine block_ret ?_
                        refine then_ret ?_
                        exact end1 (Try.results3) (by kernel_rfl) (by kernel_rfl) HA_17 H _ (.inr rfl)
                      · refine wp_skip ?_
                        refine then_normal ?_
                        refine fr_eq (b := ⟨([x0, x1, undef, undef, (D_4 0), x20, x6, (D 1), x77, x9, x10, x96, x97, undef, undef, x0, x16, x17, undef, x19, x20, x20, x22, x6, x0, x25, x26, (D 6), (D 7), (D 8), (D 9), (D 10), (D 11), (D 12), (D 13), (D 14), (D 15), (D 16), (D 17), (D 18), (D 19), (D 20), (D 21), (D 22), (D 23), (D 24), (D 25), (D 26), (D 27), (D 28)] ++ [(D 29), (D 30), (D 31), (D 32), (D 33), (D 34), (D 35), (D 36), (D 37), (D 38), (D 39), (D 40), (D 41), (D 42), (D 43), (D 44), (D 45), (D 46), (D 47), (D 48), (D 49), (D 50), (D 51), (D 52), x1, x75, x76, x77, x9, x0, x80, x81, (D_3 8), (D_3 9), x10, x85, x0, x9, x88, x89, x90, x91, x95, x20, x77, x95, x96, x97, x96, x99] ++ [x100, x100, (D_5 0), x103, x103, (D_6 0), (D_6 1), (D_6 2), (D_6 3), x109, (D_4 29), (D_4 30), (D_4 31), (D_3 39), (D_3 40), (D_3 41), (D_3 42), (D_3 43), (D_3 44), (D_3 45), (D_3 46), (D_3 47), (D_3 48), (D_3 49), undef, undef, undef, undef, undef, undef, undef, undef, undef, undef, undef, undef, undef, undef, undef, undef, undef, undef, undef, undef, undef]).toArray, []⟩) (by kernel_rfl) ?_
                        refine lwp_list ?_
                        refine ls_move (x := x10) (by kernel_rfl) (by kernel_rfl) ?_
                        refine ls_move (x := x96) (by kernel_rfl) (by kernel_rfl) ?_
                        refine ls_d (d := some 112) (by kernel_rfl) (by kernel_rfl) HA_17 (d_app (z := #[.int .u8 0]) Try.underlying30 Try.underlying30 (.inl ⟨_, rfl⟩) Try.typeInfo5 (by kernel_rfl) Try.sizeOf5 Try.zeroValue5 (by kernel_rfl) (by kernel_rfl) (by kernel_rfl) H) (fun x112 h_15 w_18 H HA_18 => ?_)
                        refine ls_assign (x := x112) (by kernel_rfl) (by kernel_rfl) ?_
                        refine ls_nil ?_
                        refine block_normal ?_
                        exact ⟨⟨(fun i => ([(D_4 0), x96, x97, x10, x85, x0, x9, x88, x89, x90, x91, x95, x20, x77, x95, x96, x97, x96, x99, x100, x100, (D_5 0), x103, x103, (D_6 0), (D_6 1), (D_6 2), (D_6 3), x109, x10, x96, x112]).getD i undef), x112, h_15, by kernel_rfl, HA_18, H.1⟩, loop_lt HA_18.heap HA_14.heap (by kernel_rfl) (by kernel_rfl) H.2⟩
                · refine wp_exit ?_
                  refine then_exit ?_
                  refine then_exit ?_
                  refine block_exit ?_
                  refine then_normal ?_
                  refine fr_eq (b := ⟨([x0, x1, undef, undef, (D_4 0), x20, x6, (D 1), x77, x9, x10, (D_4 1), (D_4 2), undef, undef, x0, x16, x17, undef, x19, x20, x20, x22, x6, x0, x25, x26, (D 6), (D 7), (D 8), (D 9), (D 10), (D 11), (D 12), (D 13), (D 14), (D 15), (D 16), (D 17), (D 18), (D 19), (D 20), (D 21), (D 22), (D 23), (D 24), (D 25), (D 26), (D 27), (D 28)] ++ [(D 29), (D 30), (D 31), (D 32), (D 33), (D 34), (D 35), (D 36), (D 37), (D 38), (D 39), (D 40), (D 41), (D 42), (D 43), (D 44), (D 45), (D 46), (D 47), (D 48), (D 49), (D 50), (D 51), (D 52), x1, x75, x76, x77, x9, x0, x80, x81, (D_3 8), (D_3 9), x10, x85, x0, x9, x88, x89, x90, x91, (D_4 11), (D_4 12), (D_4 13), (D_4 14), (D_4 15), (D_4 16), (D_4 17), (D_4 18)] ++ [(D_4 19), (D_4 20), (D_4 21), (D_4 22), (D_4 23), (D_4 24), (D_4 25), (D_4 26), (D_4 27), (D_4 28), (D_4 29), (D_4 30), (D_4 31), (D_3 39), (D_3 40), (D_3 41), (D_3 42), (D_3 43), (D_3 44), (D_3 45), (D_3 46), (D_3 47), (D_3 48), (D_3 49), undef, undef, undef, undef, undef, undef, undef, undef, undef, undef, undef, undef, undef, undef, undef, undef, undef, undef, undef, undef, undef]).toArray, []⟩) (by kernel_rfl) ?_
                  refine wp_seq ?_
                  refine lwp_list ?_
                  refine ls_move (x := x10) (by kernel_rfl) (by kernel_rfl) ?_
                  refine ls_d (d := some 114) (by kernel_rfl) (by kernel_rfl) HA_14 (d_slit (zc := #[]) Try.underlying30 Try.sizeOf5 (by decide) (.inl ⟨(by kernel_rfl), (by kernel_rfl)⟩) (by kernel_rfl) (by kernel_rfl) H) (fun x114 h_16 w_19 H HA_19 => ?_)
                  refine ls_move (x := x0) (by kernel_rfl) (by kernel_rfl) ?_
                  refine ls_move (x := x9) (by kernel_rfl) (by kernel_rfl) ?_
                  refine ls_p (d := some 117) (by kernel_rfl) (by kernel_rfl) (p_ixs Try.underlying22 Try.sizeOf30 (by kernel_rfl) (by kernel_rfl) H) (fun x117 H => ?_)
                  refine ls_y (d := some 118) (by kernel_rfl) (by kernel_rfl) HA_19 (y_ld Try.isAgg30 (by kernel_rfl) H) (fun x118 H => ?_)
                  refine ls_fr (b := ⟨([x0, x1, undef, undef, (D_4 0), x20, x6, (D 1), x77, x9, x10, (D_4 1), (D_4 2), undef, undef, x0, x16, x17, undef, x19, x20, x20, x22, x6, x0, x25, x26, (D 6), (D 7), (D 8), (D 9), (D 10), (D 11), (D 12), (D 13), (D 14), (D 15), (D 16), (D 17), (D 18), (D 19), (D 20), (D 21), (D 22), (D 23), (D 24), (D 25), (D 26), (D 27), (D 28)] ++ [(D 29), (D 30), (D 31), (D 32), (D 33), (D 34), (D 35), (D 36), (D 37), (D 38), (D 39), (D 40), (D 41), (D 42), (D 43), (D 44), (D 45), (D 46), (D 47), (D 48), (D 49), (D 50), (D 51), (D 52), x1, x75, x76, x77, x9, x0, x80, x81, (D_3 8), (D_3 9), x10, x85, x0, x9, x88, x89, x90, x91, (D_4 11), (D_4 12), (D_4 13), (D_4 14), (D_4 15), (D_4 16), (D_4 17), (D_4 18)] ++ [(D_4 19), (D_4 20), (D_4 21), (D_4 22), (D_4 23), (D_4 24), (D_4 25), (D_4 26), (D_4 27), (D_4 28), (D_4 29), (D_4 30), (D_4 31), x10, x114, x0, x9, x117, x118, (D_3 45), (D_3 46), (D_3 47), (D_3 48), (D_3 49), undef, undef, undef, undef, undef, undef, undef, undef, undef, undef, undef, undef, undef, undef, undef, undef, undef, undef, undef, undef, undef]).toArray, []⟩) (by kernel_rfl) ?_
                  refine ls_d (d := some 119) (by kernel_rfl) (by kernel_rfl) HA_19 (d_app (z := #[.int .u8 0]) Try.underlying30 Try.underlying30 (.inl ⟨_, rfl⟩) Try.typeInfo5 (by kernel_rfl) Try.sizeOf5 Try.zeroValue5 (by kernel_rfl) (by kernel_rfl) (by kernel_rfl) H) (fun x119 h_17 w_20 H HA_20 => ?_)
                  refine ls_d (d := some 120) (by kernel_rfl) (by kernel_rfl) HA_20 (d_slit (zc := #[.int .u8 0]) Try.underlying30 Try.sizeOf5 (by decide) (.inr ⟨by decide, _, Try.zeroValue5, (by kernel_rfl)⟩) (by kernel_rfl) (by kernel_rfl) H) (fun x120 h_18 w_21 H HA_21 => ?_)
                  refine ls_d (d := some 121) (by kernel_rfl) (by kernel_rfl) HA_21 (d_app (z := #[.int .u8 0]) Try.underlying30 Try.underlying30 (.inl ⟨_, rfl⟩) Try.typeInfo5 (by kernel_rfl) Try.sizeOf5 Try.zeroValue5 (by kernel_rfl) (by kernel_rfl) (by kernel_rfl) H) (fun x121 h_19 w_22 H HA_22 => ?_)
                  refine ls_d (d := some 122) (by kernel_rfl) (by kernel_rfl) HA_22 (d_call (by kernel_rfl) (by kernel_rfl) H) (fun x122 h_20 w_23 H HA_23 => ?_)
                  refine ls_p (d := some 123) (by kernel_rfl) (by kernel_rfl) (p_not (by kernel_rfl) H) (fun x123 H => ?_)
                  refine ls_nil ?_
                  refine then_normal ?_
                  refine fr_eq (b := ⟨([x0, x1, undef, undef, (D_4 0), x20, x6, (D 1), x77, x9, x10, (D_4 1), (D_4 2), undef, undef, x0, x16, x17, undef, x19, x20, x20, x22, x6, x0, x25, x26, (D 6), (D 7), (D 8), (D 9), (D 10), (D 11), (D 12), (D 13), (D 14), (D 15), (D 16), (D 17), (D 18), (D 19), (D 20), (D 21), (D 22), (D 23), (D 24), (D 25), (D 26), (D 27), (D 28)] ++ [(D 29), (D 30), (D 31), (D 32), (D 33), (D 34), (D 35), (D 36), (D 37), (D 38), (D 39), (D 40), (D 41), (D 42), (D 43), (D 44), (D 45), (D 46), (D 47), (D 48), (D 49), (D 50), (D 51), (D 52), x1, x75, x76, x77, x9, x0, x80, x81, (D_3 8), (D_3 9), x10, x85, x0, x9, x88, x89, x90, x91, (D_4 11), (D_4 12), (D_4 13), (D_4 14), (D_4 15), (D_4 16), (D_4 17), (D_4 18)] ++ [(D_4 19), (D_4 20), (D_4 21), (D_4 22), (D_4 23), (D_4 24), (D_4 25), (D_4 26), (D_4 27), (D_4 28), (D_4 29), (D_4 30), (D_4 31), x10, x114, x0, x9, x117, x118, x119, x120, x121, x122, x123, undef, undef, undef, undef, undef, undef, undef, undef, undef, undef, undef, undef, undef, undef, undef, undef, undef, undef, undef, undef, undef]).toArray, []⟩) (by kernel_rfl) ?_
                  refine wp_if rfl H (fun H => ?_) (fun H => ?_)
                  · refine wp_seq ?_
                    refine lwp_list ?_
                    refine ls_assign (x := (.bool false)) (by kernel_rfl) (by kernel_rfl) ?_
                    refine ls_nil ?_
                    refine then_normal ?_
                    refine fr_eq (b := ⟨([x0, x1, undef, undef, (.bool false), x20, x6, (D 1), x77, x9, x10, (D_4 1), (D_4 2), undef, undef, x0, x16, x17, undef, x19, x20, x20, x22, x6, x0, x25, x26, (D 6), (D 7), (D 8), (D 9), (D 10), (D 11), (D 12), (D 13), (D 14), (D 15), (D 16), (D 17), (D 18), (D 19), (D 20), (D 21), (D 22), (D 23), (D 24), (D 25), (D 26), (D 27), (D 28)] ++ [(D 29), (D 30), (D 31), (D 32), (D 33), (D 34), (D 35), (D 36), (D 37), (D 38), (D 39), (D 40), (D 41), (D 42), (D 43), (D 44), (D 45), (D 46), (D 47), (D 48), (D 49), (D 50), (D 51), (D 52), x1, x75, x76, x77, x9, x0, x80, x81, (D_3 8), (D_3 9), x10, x85, x0, x9, x88, x89, x90, x91, (D_4 11), (D_4 12), (D_4 13), (D_4 14), (D_4 15), (D_4 16), (D_4 17), (D_4 18)] ++ [(D_4 19), (D_4 20), (D_4 21), (D_4 22), (D_4 23), (D_4 24), (D_4 25), (D_4 26), (D_4 27), (D_4 28), (D_4 29), (D_4 30), (D_4 31), x10, x114, x0, x9, x117, x118, x119, x120, x121, x122, x123, undef, undef, undef, undef, undef, undef, undef, undef, undef, undef, undef, undef, undef, undef, undef, undef, undef, undef, undef, undef, undef]).toArray, []⟩) (by kernel_rfl) ?_
                    refine wp_ret ?_
                    refine block_ret ?_
                    refine then_ret ?_
                    refine then_ret ?_
                    refine block_ret ?_
                    refine then_ret ?_
                    exact end1 (Try.results3) (by kernel_rfl) (by kernel_rfl) HA_23 H _ (.inr rfl)
                  · refine wp_skip ?_
                    refine block_normal ?_
                    refine then_normal ?_
                    refine fr_eq (b := ⟨([x0, x1, undef, undef, (D_4 0), x20, x6, (D 1), x77, x9, x10, (D_4 1), (D_4 2), undef, undef, x0, x16, x17, undef, x19, x20, x20, x22, x6, x0, x25, x26, (D 6), (D 7), (D 8), (D 9), (D 10), (D 11), (D 12), (D 13), (D 14), (D 15), (D 16), (D 17), (D 18), (D 19), (D 20), (D 21), (D 22), (D 23), (D 24), (D 25), (D 26), (D 27), (D 28)] ++ [(D 29), (D 30), (D 31), (D 32), (D 33), (D 34), (D 35), (D 36), (D 37), (D 38), (D 39), (D 40), (D 41), (D 42), (D 43), (D 44), (D 45), (D 46), (D 47), (D 48), (D 49), (D 50), (D 51), (D 52), x1, x75, x76, x77, x9, x0, x80, x81, (D_3 8), (D_3 9), x10, x85, x0, x9, x88, x89, x90, x91, (D_4 11), (D_4 12), (D_4 13), (D_4 14), (D_4 15), (D_4 16), (D_4 17), (D_4 18)] ++ [(D_4 19), (D_4 20), (D_4 21), (D_4 22), (D_4 23), (D_4 24), (D_4 25), (D_4 26), (D_4 27), (D_4 28), (D_4 29), (D_4 30), (D_4 31), x10, x114, x0, x9, x117, x118, x119, x120, x121, x122, x123, undef, undef, undef, undef, undef, undef, undef, undef, undef, undef, undef, undef, undef, undef, undef, undef, undef, undef, undef, undef, undef]).toArray, []⟩) (by kernel_rfl) ?_
                    refine lwp_list ?_
                    refine ls_move (x := x9) (by kernel_rfl) (by kernel_rfl) ?_
                    refine ls_p (d := some 83) (by kernel_rfl) (by kernel_rfl) (p_add (by kernel_rfl) (by kernel_rfl) H) (fun x83 H => ?_)
                    refine ls_assign (x := x83) (by kernel_rfl) (by kernel_rfl) ?_
                    refine ls_nil ?_
                    exact ⟨⟨(fun i => ([(D_4 0), x10, (D_4 1), (D_4 2), x9, x0, x80, x81, x9, x83, x10, x85, x0, x9, x88, x89, x90, x91, (D_4 11), (D_4 12), (D_4 13), (D_4 14), (D_4 15), (D_4 16), (D_4 17), (D_4 18), (D_4 19), (D_4 20), (D_4 21), (D_4 22), (D_4 23), (D_4 24), (D_4 25), (D_4 26), (D_4 27), (D_4 28), (D_4 29), (D_4 30), (D_4 31), x10, x114, x0, x9, x117, x118, x119, x120, x121, x122, x123]).getD i undef), x83, h_20, by kernel_rfl, HA_23, H.1⟩, loop_lt HA_23.heap HA_13.heap (by kernel_rfl) (by kernel_rfl) H.2⟩
            · refine wp_exit ?_
              refine then_exit ?_
              refine then_exit ?_
              refine block_exit ?_
              refine then_normal ?_
              refine fr_eq (b := ⟨([x0, x1, undef, undef, (D_3 0), x20, x6, (D 1), x77, x9, (D_3 1), (D_3 2), (D_3 3), undef, undef, x0, x16, x17, undef, x19, x20, x20, x22, x6, x0, x25, x26, (D 6), (D 7), (D 8), (D 9), (D 10), (D 11), (D 12), (D 13), (D 14), (D 15), (D 16), (D 17), (D 18), (D 19), (D 20), (D 21), (D 22), (D 23), (D 24), (D 25), (D 26), (D 27), (D 28)] ++ [(D 29), (D 30), (D 31), (D 32), (D 33), (D 34), (D 35), (D 36), (D 37), (D 38), (D 39), (D 40), (D 41), (D 42), (D 43), (D 44), (D 45), (D 46), (D 47), (D 48), (D 49), (D 50), (D 51), (D 52), x1, x75, x76, x77, x9, x0, x80, x81, (D_3 8), (D_3 9), (D_3 10), (D_3 11), (D_3 12), (D_3 13), (D_3 14), (D_3 15), (D_3 16), (D_3 17), (D_3 18), (D_3 19), (D_3 20), (D_3 21), (D_3 22), (D_3 23), (D_3 24), (D_3 25)] ++ [(D_3 26), (D_3 27), (D_3 28), (D_3 29), (D_3 30), (D_3 31), (D_3 32), (D_3 33), (D_3 34), (D_3 35), (D_3 36), (D_3 37), (D_3 38), (D_3 39), (D_3 40), (D_3 41), (D_3 42), (D_3 43), (D_3 44), (D_3 45), (D_3 46), (D_3 47), (D_3 48), (D_3 49), undef, undef, undef, undef, undef, undef, undef, undef, undef, undef, undef, undef, undef, undef, undef, undef, undef, undef, undef, undef, undef]).toArray, []⟩) (by kernel_rfl) ?_
              refine wp_seq ?_
              refine lwp_list ?_
              refine ls_move (x := x20) (by kernel_rfl) (by kernel_rfl) ?_
              refine ls_move (x := x77) (by kernel_rfl) (by kernel_rfl) ?_
              refine ls_d (d := some 127) (by kernel_rfl) (by kernel_rfl) HA_13 (d_call (by kernel_rfl) (by kernel_rfl) H) (fun x127 h_21 w_24 H HA_24 => ?_)
              refine ls_move (x := x127) (by kernel_rfl) (by kernel_rfl) ?_
              refine ls_p (d := some 128) (by kernel_rfl) (by kernel_rfl) (p_tup (by kernel_rfl) H) (fun x128 H => ?_)
              refine ls_p (d := some 129) (by kernel_rfl) (by kernel_rfl) (p_tup (by kernel_rfl) H) (fun x129 H => ?_)
              refine ls_fr (b := ⟨([x0, x1, undef, undef, (D_3 0), x20, x6, (D 1), x77, x9, (D_3 1), (D_3 2), (D_3 3), undef, undef, x0, x16, x17, undef, x19, x20, x20, x22, x6, x0, x25, x26, (D 6), (D 7), (D 8), (D 9), (D 10), (D 11), (D 12), (D 13), (D 14), (D 15), (D 16), (D 17), (D 18), (D 19), (D 20), (D 21), (D 22), (D 23), (D 24), (D 25), (D 26), (D 27), (D 28)] ++ [(D 29), (D 30), (D 31), (D 32), (D 33), (D 34), (D 35), (D 36), (D 37), (D 38), (D 39), (D 40), (D 41), (D 42), (D 43), (D 44), (D 45), (D 46), (D 47), (D 48), (D 49), (D 50), (D 51), (D 52), x1, x75, x76, x77, x9, x0, x80, x81, (D_3 8), (D_3 9), (D_3 10), (D_3 11), (D_3 12), (D_3 13), (D_3 14), (D_3 15), (D_3 16), (D_3 17), (D_3 18), (D_3 19), (D_3 20), (D_3 21), (D_3 22), (D_3 23), (D_3 24), (D_3 25)] ++ [(D_3 26), (D_3 27), (D_3 28), (D_3 29), (D_3 30), (D_3 31), (D_3 32), (D_3 33), (D_3 34), (D_3 35), (D_3 36), (D_3 37), (D_3 38), (D_3 39), (D_3 40), (D_3 41), (D_3 42), (D_3 43), (D_3 44), (D_3 45), (D_3 46), (D_3 47), (D_3 48), (D_3 49), x127, x20, x77, x127, x128, x129, undef, undef, undef, undef, undef, undef, undef, undef, undef, undef, undef, undef, undef, undef, undef]).toArray, []⟩) (by kernel_rfl) ?_
              refine ls_assign (x := x128) (by kernel_rfl) (by kernel_rfl) ?_
              refine ls_assign (x := x129) (by kernel_rfl) (by kernel_rfl) ?_
              refine ls_nil ?_
              refine then_normal ?_
              refine fr_eq (b := ⟨([x0, x1, undef, undef, (D_3 0), x20, x6, (D 1), x77, x9, (D_3 1), (D_3 2), (D_3 3), x128, x129, x0, x16, x17, undef, x19, x20, x20, x22, x6, x0, x25, x26, (D 6), (D 7), (D 8), (D 9), (D 10), (D 11), (D 12), (D 13), (D 14), (D 15), (D 16), (D 17), (D 18), (D 19), (D 20), (D 21), (D 22), (D 23), (D 24), (D 25), (D 26), (D 27), (D 28)] ++ [(D 29), (D 30), (D 31), (D 32), (D 33), (D 34), (D 35), (D 36), (D 37), (D 38), (D 39), (D 40), (D 41), (D 42), (D 43), (D 44), (D 45), (D 46), (D 47), (D 48), (D 49), (D 50), (D 51), (D 52), x1, x75, x76, x77, x9, x0, x80, x81, (D_3 8), (D_3 9), (D_3 10), (D_3 11), (D_3 12), (D_3 13), (D_3 14), (D_3 15), (D_3 16), (D_3 17), (D_3 18), (D_3 19), (D_3 20), (D_3 21), (D_3 22), (D_3 23), (D_3 24), (D_3 25)] ++ [(D_3 26), (D_3 27), (D_3 28), (D_3 29), (D_3 30), (D_3 31), (D_3 32), (D_3 33), (D_3 34), (D_3 35), (D_3 36), (D_3 37), (D_3 38), (D_3 39), (D_3 40), (D_3 41), (D_3 42), (D_3 43), (D_3 44), (D_3 45), (D_3 46), (D_3 47), (D_3 48), (D_3 49), x127, x20, x77, x127, x128, x129, undef, undef, undef, undef, undef, undef, undef, undef, undef, undef, undef, undef, undef, undef, undef]).toArray, []⟩) (by kernel_rfl) ?_
              refine wp_seq ?_
              refine lwp_list ?_
              refine ls_move (x := x128) (by kernel_rfl) (by kernel_rfl) ?_
              refine ls_p (d := some 131) (by kernel_rfl) (by kernel_rfl) (p_len Try.underlying30 (by kernel_rfl) H) (fun x131 H => ?_)
              refine ls_p (d := some 132) (by kernel_rfl) (by kernel_rfl) (p_sEq (by kernel_rfl) (by kernel_rfl) H) (fun x132 H => ?_)
              refine ls_move (x := x132) (by kernel_rfl) (by kernel_rfl) ?_
              refine ls_and [(), (), ()] (fun K a w => ∃ (D_7 : Nat → Value) (x136 : Value), a = ⟨([x0, x1, undef, undef, (D_3 0), x20, x6, (D 1), x77, x9, (D_3 1), (D_3 2), (D_3 3), x128, x129, x0, x16, x17, undef, x19, x20, x20, x22, x6, x0, x25, x26, (D 6), (D 7), (D 8), (D 9), (D 10), (D 11), (D 12), (D 13), (D 14), (D 15), (D 16), (D 17), (D 18), (D 19), (D 20), (D 21), (D 22), (D 23), (D 24), (D 25), (D 26), (D 27), (D 28)] ++ [(D 29), (D 30), (D 31), (D 32), (D 33), (D 34), (D 35), (D 36), (D 37), (D 38), (D 39), (D 40), (D 41), (D 42), (D 43), (D 44), (D 45), (D 46), (D 47), (D 48), (D 49), (D 50), (D 51), (D 52), x1, x75, x76, x77, x9, x0, x80, x81, (D_3 8), (D_3 9), (D_3 10), (D_3 11), (D_3 12), (D_3 13), (D_3 14), (D_3 15), (D_3 16), (D_3 17), (D_3 18), (D_3 19), (D_3 20), (D_3 21), (D_3 22), (D_3 23), (D_3 24), (D_3 25)] ++ [(D_3 26), (D_3 27), (D_3 28), (D_3 29), (D_3 30), (D_3 31), (D_3 32), (D_3 33), (D_3 34), (D_3 35), (D_3 36), (D_3 37), (D_3 38), (D_3 39), (D_3 40), (D_3 41), (D_3 42), (D_3 43), (D_3 44), (D_3 45), (D_3 46), (D_3 47), (D_3 48), (D_3 49), x127, x20, x77, x127, x128, x129, x128, x131, x132, x132, (D_7 0), (D_7 1), x136, undef, undef, undef, undef, undef, undef, undef, undef]).toArray, []⟩ ∧ At w0 w h_21 ∧ K x136) H (fun hb_5 H => ?_) (fun hb_5 H => ?_) ?_
              · refine ls_move (x := x129) (by rw [hb_5]; kernel_rfl) (by kernel_rfl) ?_
                refine ls_p (d := some 135) (by kernel_rfl) (by rw [hb_5]; kernel_rfl) (p_not (by kernel_rfl) H) (fun x135 H => ?_)
                refine ls_fr (b := ⟨([x0, x1, undef, undef, (D_3 0), x20, x6, (D 1), x77, x9, (D_3 1), (D_3 2), (D_3 3), x128, x129, x0, x16, x17, undef, x19, x20, x20, x22, x6, x0, x25, x26, (D 6), (D 7), (D 8), (D 9), (D 10), (D 11), (D 12), (D 13), (D 14), (D 15), (D 16), (D 17), (D 18), (D 19), (D 20), (D 21), (D 22), (D 23), (D 24), (D 25), (D 26), (D 27), (D 28)] ++ [(D 29), (D 30), (D 31), (D 32), (D 33), (D 34), (D 35), (D 36), (D 37), (D 38), (D 39), (D 40), (D 41), (D 42), (D 43), (D 44), (D 45), (D 46), (D 47), (D 48), (D 49), (D 50), (D 51), (D 52), x1, x75, x76, x77, x9, x0, x80, x81, (D_3 8), (D_3 9), (D_3 10), (D_3 11), (D_3 12), (D_3 13), (D_3 14), (D_3 15), (D_3 16), (D_3 17), (D_3 18), (D_3 19), (D_3 20), (D_3 21), (D_3 22), (D_3 23), (D_3 24), (D_3 25)] ++ [(D_3 26), (D_3 27), (D_3 28), (D_3 29), (D_3 30), (D_3 31), (D_3 32), (D_3 33), (D_3 34), (D_3 35), (D_3 36), (D_3 37), (D_3 38), (D_3 39), (D_3 40), (D_3 41), (D_3 42), (D_3 43), (D_3 44), (D_3 45), (D_3 46), (D_3 47), (D_3 48), (D_3 49), x127, x20, x77, x127, x128, x129, x128, x131, x132, x132, x129, x135, undef, undef, undef, undef, undef, undef, undef, undef, undef]).toArray, []⟩) (by kernel_rfl) ?_
                refine ls_pick_t (x := x135) (by kernel_rfl) (by rw [hb_5]; kernel_rfl) (by kernel_rfl) ?_
                refine ls_nil ?_
                refine then_normal ?_
                exact ⟨(fun i => ([x129, x135]).getD i undef), x135, by kernel_rfl, HA_24, H⟩
              · refine ls_skip (d := some 134) (by kernel_rfl) (by rw [hb_5]; kernel_rfl) ?_
                refine ls_skip (d := some 135) (by kernel_rfl) (by rw [hb_5]; kernel_rfl) ?_
                refine ls_fr (b := ⟨([x0, x1, undef, undef, (D_3 0), x20, x6, (D 1), x77, x9, (D_3 1), (D_3 2), (D_3 3), x128, x129, x0, x16, x17, undef, x19, x20, x20, x22, x6, x0, x25, x26, (D 6), (D 7), (D 8), (D 9), (D 10), (D 11), (D 12), (D 13), (D 14), (D 15), (D 16), (D 17), (D 18), (D 19), (D 20), (D 21), (D 22), (D 23), (D 24), (D 25), (D 26), (D 27), (D 28)] ++ [(D 29), (D 30), (D 31), (D 32), (D 33), (D 34), (D 35), (D 36), (D 37), (D 38), (D 39), (D 40), (D 41), (D 42), (D 43), (D 44), (D 45), (D 46), (D 47), (D 48), (D 49), (D 50), (D 51), (D 52), x1, x75, x76, x77, x9, x0, x80, x81, (D_3 8), (D_3 9), (D_3 10), (D_3 11), (D_3 12), (D_3 13), (D_3 14), (D_3 15), (D_3 16), (D_3 17), (D_3 18), (D_3 19), (D_3 20), (D_3 21), (D_3 22), (D_3 23), (D_3 24), (D_3 25)] ++ [(D_3 26), (D_3 27), (D_3 28), (D_3 29), (D_3 30), (D_3 31), (D_3 32), (D_3 33), (D_3 34), (D_3 35), (D_3 36), (D_3 37), (D_3 38), (D_3 39), (D_3 40), (D_3 41), (D_3 42), (D_3 43), (D_3 44), (D_3 45), (D_3 46), (D_3 47), (D_3 48), (D_3 49), x127, x20, x77, x127, x128, x129, x128, x131, x132, x132, undef, undef, undef, undef, undef, undef, undef, undef, undef, undef, undef]).toArray, []⟩) (by kernel_rfl) ?_
                refine ls_pick_f (y := (.bool false)) (by kernel_rfl) (by rw [hb_5]; kernel_rfl) (by kernel_rfl) ?_
                refine ls_nil ?_
                refine then_normal ?_
                exact ⟨(fun i => ([undef, undef]).getD i undef), (.bool false), by kernel_rfl, HA_24, H⟩
              · rintro _ w_25 ⟨D_7, x136, rfl, HA_25, H⟩
                refine ls_move (x := x136) (by kernel_rfl) (by kernel_rfl) ?_
                refine ls_andh [(), (), (), ()] (fun K a w => ∃ (D_8 : Nat → Value) (x141 : Value) (h_22 : Heap), a = ⟨([x0, x1, undef, undef, (D_3 0), x20, x6, (D 1), x77, x9, (D_3 1), (D_3 2), (D_3 3), x128, x129, x0, x16, x17, undef, x19, x20, x20, x22, x6, x0, x25, x26, (D 6), (D 7), (D 8), (D 9), (D 10), (D 11), (D 12), (D 13), (D 14), (D 15), (D 16), (D 17), (D 18), (D 19), (D 20), (D 21), (D 22), (D 23), (D 24), (D 25), (D 26), (D 27), (D 28)] ++ [(D 29), (D 30), (D 31), (D 32), (D 33), (D 34), (D 35), (D 36), (D 37), (D 38), (D 39), (D 40), (D 41), (D 42), (D 43), (D 44), (D 45), (D 46), (D 47), (D 48), (D 49), (D 50), (D 51), (D 52), x1, x75, x76, x77, x9, x0, x80, x81, (D_3 8), (D_3 9), (D_3 10), (D_3 11), (D_3 12), (D_3 13), (D_3 14), (D_3 15), (D_3 16), (D_3 17), (D_3 18), (D_3 19), (D_3 20), (D_3 21), (D_3 22), (D_3 23), (D_3 24), (D_3 25)] ++ [(D_3 26), (D_3 27), (D_3 28), (D_3 29), (D_3 30), (D_3 31), (D_3 32), (D_3 33), (D_3 34), (D_3 35), (D_3 36), (D_3 37), (D_3 38), (D_3 39), (D_3 40), (D_3 41), (D_3 42), (D_3 43), (D_3 44), (D_3 45), (D_3 46), (D_3 47), (D_3 48), (D_3 49), x127, x20, x77, x127, x128, x129, x128, x131, x132, x132, (D_7 0), (D_7 1), x136, x136, (D_8 0), (D_8 1), (D_8 2), x141, undef, undef, undef]).toArray, []⟩ ∧ At w0 w h_22 ∧ K x141 h_22) H (fun hb_4 H => ?_) (fun hb_4 H => ?_) ?_
                · refine ls_move (x := x20) (by rw [hb_4]; kernel_rfl) (by kernel_rfl) ?_
                  refine ls_d (d := some 139) (by kernel_rfl) (by rw [hb_4]; kernel_rfl) HA_25 (d_call (by kernel_rfl) (by kernel_rfl) H) (fun x139 h_25 w_29 H HA_29 => ?_)
                  refine ls_p (d := some 140) (by kernel_rfl) (by rw [hb_4]; kernel_rfl) (p_sEq (by kernel_rfl) (by kernel_rfl) H) (fun x140 H => ?_)
                  refine ls_pick_t (x := x140) (by kernel_rfl) (by rw [hb_4]; kernel_rfl) (by kernel_rfl) ?_
                  refine ls_nil ?_
                  refine then_normal ?_
                  exact ⟨(fun i => ([x20, x139, x140]).getD i undef), x140, h_25, by kernel_rfl, HA_29, H⟩
                · refine ls_skip (d := some 138) (by kernel_rfl) (by rw [hb_4]; kernel_rfl) ?_
                  refine ls_skip (d := some 139) (by kernel_rfl) (by rw [hb_4]; kernel_rfl) ?_
                  refine ls_skip (d := some 140) (by kernel_rfl) (by rw [hb_4]; kernel_rfl) ?_
                  refine ls_pick_f (y := (.bool false)) (by kernel_rfl) (by rw [hb_4]; kernel_rfl) (by kernel_rfl) ?_
                  refine ls_nil ?_
                  refine then_normal ?_
                  exact ⟨(fun i => ([undef, undef, undef]).getD i undef), (.bool false), h_21, by kernel_rfl, HA_25, H⟩
                · rintro _ w_26 ⟨D_8, x141, h_22, rfl, HA_26, H⟩
                  refine ls_move (x := x141) (by kernel_rfl) (by kernel_rfl) ?_
                  refine ls_andh [(), ()] (fun K a w => ∃ (D_9 : Nat → Value) (x144 : Value) (h_23 : Heap), a = ⟨([x0, x1, undef, undef, (D_3 0), x20, x6, (D 1), x77, x9, (D_3 1), (D_3 2), (D_3 3), x128, x129, x0, x16, x17, undef, x19, x20, x20, x22, x6, x0, x25, x26, (D 6), (D 7), (D 8), (D 9), (D 10), (D 11), (D 12), (D 13), (D 14), (D 15), (D 16), (D 17), (D 18), (D 19), (D 20), (D 21), (D 22), (D 23), (D 24), (D 25), (D 26), (D 27), (D 28)] ++ [(D 29), (D 30), (D 31), (D 32), (D 33), (D 34), (D 35), (D 36), (D 37), (D 38), (D 39), (D 40), (D 41), (D 42), (D 43), (D 44), (D 45), (D 46), (D 47), (D 48), (D 49), (D 50), (D 51), (D 52), x1, x75, x76, x77, x9, x0, x80, x81, (D_3 8), (D_3 9), (D_3 10), (D_3 11), (D_3 12), (D_3 13), (D_3 14), (D_3 15), (D_3 16), (D_3 17), (D_3 18), (D_3 19), (D_3 20), (D_3 21), (D_3 22), (D_3 23), (D_3 24), (D_3 25)] ++ [(D_3 26), (D_3 27), (D_3 28), (D_3 29), (D_3 30), (D_3 31), (D_3 32), (D_3 33), (D_3 34), (D_3 35), (D_3 36), (D_3 37), (D_3 38), (D_3 39), (D_3 40), (D_3 41), (D_3 42), (D_3 43), (D_3 44), (D_3 45), (D_3 46), (D_3 47), (D_3 48), (D_3 49), x127, x20, x77, x127, x128, x129, x128, x131, x132, x132, (D_7 0), (D_7 1), x136, x136, (D_8 0), (D_8 1), (D_8 2), x141, x141, (D_9 0), x144]).toArray, []⟩ ∧ At w0 w h_23 ∧ K x144 h_23) H (fun hb_3 H => ?_) (fun hb_3 H => ?_) ?_
                  · refine ls_d (d := some 143) (by kernel_rfl) (by rw [hb_3]; kernel_rfl) HA_26 (d_call (by kernel_rfl) (by kernel_rfl) H) (fun x143 h_24 w_28 H HA_28 => ?_)
                    refine ls_pick_t (x := x143) (by kernel_rfl) (by rw [hb_3]; kernel_rfl) (by kernel_rfl) ?_
                    refine ls_nil ?_
                    refine then_normal ?_
                    exact ⟨(fun i => ([x143]).getD i undef), x143, h_24, by kernel_rfl, HA_28, H⟩
                  · refine ls_skip (d := some 143) (by kernel_rfl) (by rw [hb_3]; kernel_rfl) ?_
                    refine ls_pick_f (y := (.bool false)) (by kernel_rfl) (by rw [hb_3]; kernel_rfl) (by kernel_rfl) ?_
                    refine ls_nil ?_
                    refine then_normal ?_
                    exact ⟨(fun i => ([undef]).getD i undef), (.bool false), h_22, by kernel_rfl, HA_26, H⟩
                  · rintro _ w_27 ⟨D_9, x144, h_23, rfl, HA_27, H⟩
                    refine ls_assign (x := x144) (by kernel_rfl) (by kernel_rfl) ?_
                    refine ls_nil ?_
                    refine then_normal ?_
                    refine fr_eq (b := ⟨([x0, x1, undef, undef, x144, x20, x6, (D 1), x77, x9, (D_3 1), (D_3 2), (D_3 3), x128, x129, x0, x16, x17, undef, x19, x20, x20, x22, x6, x0, x25, x26, (D 6), (D 7), (D 8), (D 9), (D 10), (D 11), (D 12), (D 13), (D 14), (D 15), (D 16), (D 17), (D 18), (D 19), (D 20), (D 21), (D 22), (D 23), (D 24), (D 25), (D 26), (D 27), (D 28)] ++ [(D 29), (D 30), (D 31), (D 32), (D 33), (D 34), (D 35), (D 36), (D 37), (D 38), (D 39), (D 40), (D 41), (D 42), (D 43), (D 44), (D 45), (D 46), (D 47), (D 48), (D 49), (D 50), (D 51), (D 52), x1, x75, x76, x77, x9, x0, x80, x81, (D_3 8), (D_3 9), (D_3 10), (D_3 11), (D_3 12), (D_3 13), (D_3 14), (D_3 15), (D_3 16), (D_3 17), (D_3 18), (D_3 19), (D_3 20), (D_3 21), (D_3 22), (D_3 23), (D_3 24), (D_3 25)] ++ [(D_3 26), (D_3 27), (D_3 28), (D_3 29), (D_3 30), (D_3 31), (D_3 32), (D_3 33), (D_3 34), (D_3 35), (D_3 36), (D_3 37), (D_3 38), (D_3 39), (D_3 40), (D_3 41), (D_3 42), (D_3 43), (D_3 44), (D_3 45), (D_3 46), (D_3 47), (D_3 48), (D_3 49), x127, x20, x77, x127, x128, x129, x128, x131, x132, x132, (D_7 0), (D_7 1), x136, x136, (D_8 0), (D_8 1), (D_8 2), x141, x141, (D_9 0), x144]).toArray, []⟩) (by kernel_rfl) ?_
                    refine wp_ret ?_
                    exact end1 (Try.results3) (by kernel_rfl) (by kernel_rfl) HA_27 H _ (.inr rfl)

end Go.Proofs.Ytlcklnbgknhhkaa
