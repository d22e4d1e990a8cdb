/- The shallow reading of one function, and that the function does it. Written by a program. -/
import Derived.Test.YtlcklnbgknhhkaaFnC
set_option linter.unusedVariables false
namespace Go.Proofs.Ytlcklnbgknhhkaa
open Go Go.HW

def betonylaw18_LdiscErase_l3 (R : Value → Heap → Prop) (x1 x26 x44 x8 : Value) (next : Value → Value → Heap → Prop) (x12 x13 : Value) (h_8 : Heap) : Prop :=
  sLen x1 fun x68 =>
  sLt x13 x68 fun x69 =>
  sIf x69 (ldisc_Disc_Input_c x26 (.int .u8 127) h_8 fun x74 h_9 => 
  sTup x74 0 fun x75 =>
  sTup x74 1 fun x76 =>
  sLen x75 fun x79 =>
  sAdd .i64 x12 x79 fun x80 =>
  sAdd .i64 x13 (.int .i64 1) fun x71 =>
  next x80 x71 h_9) (ldisc_Disc_Line_c x26 h_8 fun x82 h_10 => 
  betonyref01_Same_c x82 x44 h_10 fun x84 h_11 => 
  sAnd x84 (fun k_2 =>
  sMul .i64 (.int .i64 3) x8 fun x88 =>
  sEq x12 x88 fun x89 =>
  k_2 x89) fun x90 =>
  sAnd x90 (fun k_1 =>
  sLen x1 fun x94 =>
  sEq x8 x94 fun x95 =>
  k_1 x95) fun x96 =>
  sAndH x96 h_11 (fun k =>
  betonylaw18_awake_c  h_11 fun x98 h_13 => 
  k x98 h_13) fun x99 h_12 =>
  R x99 h_12)
def betonylaw18_LdiscErase_l2 (R : Value → Heap → Prop) (x1 x26 x44 : Value) (next : Value → Value → Heap → Prop) (x8 x9 : Value) (h_6 : Heap) : Prop :=
  sLen x1 fun x47 =>
  sLt x9 x47 fun x48 =>
  sIf x48 (sIxS x1 x9 1 fun x55 =>
  sLd h_6 x55 fun x56 =>
  sRem .u8 x56 (.int .u8 26) fun x57 =>
  sAdd .u8 (.int .u8 97) x57 fun x58 =>
  ldisc_Disc_Input_c x26 x58 h_6 fun x59 h_7 => 
  sTup x59 0 fun x60 =>
  sTup x59 1 fun x61 =>
  sLen x60 fun x64 =>
  sAdd .i64 x8 x64 fun x65 =>
  sAdd .i64 x9 (.int .i64 1) fun x50 =>
  next x65 x50 h_7) (sLoop (S := Value × Value) (fun nxt s h => betonylaw18_LdiscErase_l3 R x1 x26 x44 x8 (fun x12' x13' h => nxt (x12', x13') h) s.1 s.2 h) ((.int .i64 0), (.int .i64 0)) h_6)
def betonylaw18_LdiscErase_l1 (R : Value → Heap → Prop) (x0 x1 x26 : Value) (next : Value → Heap → Prop) (x6 : Value) (h_3 : Heap) : Prop :=
  sLen x0 fun x31 =>
  sLt x6 x31 fun x32 =>
  sIf x32 (sIxS x0 x6 1 fun x38 =>
  sLd h_3 x38 fun x39 =>
  sRem .u8 x39 (.int .u8 26) fun x40 =>
  sAdd .u8 (.int .u8 97) x40 fun x41 =>
  ldisc_Disc_Input_c x26 x41 h_3 fun x42 h_4 => 
  sAdd .i64 x6 (.int .i64 1) fun x34 =>
  next x34 h_4) (ldisc_Disc_Line_c x26 h_3 fun x44 h_5 => 
  sLoop (S := Value × Value) (fun nxt s h => betonylaw18_LdiscErase_l2 R x1 x26 x44 (fun x8' x9' h => nxt (x8', x9') h) s.1 s.2 h) ((.int .i64 0), (.int .i64 0)) h_5)
def betonylaw18_LdiscErase_S (x0 x1 : Value) (h : Heap) (R : Value → Heap → Prop) : Prop :=
  sLen x0 fun x17 =>
  sGt x17 (.int .i64 40) fun x18 =>
  sOr x18 (fun k_3 =>
  sLen x1 fun x21 =>
  sGt x21 (.int .i64 40) fun x22 =>
  k_3 x22) fun x23 =>
  sIf x23 (betonylaw18_awake_c  h fun x24 h => 
  R x24 h) (betonyref17_Plain_c  h fun x25 h_1 => 
  ldisc_New_c x25 h_1 fun x26 h_2 => 
  sEqlNil x26 fun x28 =>
  sIf x28 (R (.bool false) h_2) (sLoop (S := Value) (fun nxt s h => betonylaw18_LdiscErase_l1 R x0 x1 x26 (fun x6' h => nxt x6' h) s h) (.int .i64 0) h_2))
set_option maxRecDepth 100000 in
theorem betonylaw18_LdiscErase_runs {x0 x1 : Value} {h : Heap} {R : Value → Heap → Prop} (H : betonylaw18_LdiscErase_S x0 x1 h R) : betonylaw18_LdiscErase_c x0 x1 h R := by
  unfold betonylaw18_LdiscErase_S at H
  refine runs_of (b := ⟨([x0, x1, undef, undef, undef, undef, undef, undef, undef, undef, undef, undef, undef, undef, undef, undef, undef, undef, undef, undef, undef, undef, undef, undef, undef, undef, undef, undef, undef, undef, undef, undef, undef, undef, undef, undef, undef, undef, undef, undef, undef, undef, undef, undef, undef, undef, undef, undef, undef, undef] ++ [undef, undef, undef, undef, undef, undef, undef, undef, undef, undef, undef, undef, undef, undef, undef, undef, undef, undef, undef, undef, undef, undef, undef, undef, undef, undef, undef, undef, undef, undef, undef, undef, undef, undef, undef, undef, undef, undef, undef, undef, undef, undef, undef, undef, undef, undef, undef, undef, undef, undef]).toArray, []⟩) Try.call7 Try.func7 rfl (by kernel_rfl) (fun w0 HA => ?_)
  refine wp_seq ?_
  refine lwp_list ?_
  refine ls_assign (x := (.bool false)) (by kernel_rfl) (by kernel_rfl) ?_
  refine ls_nil ?_
  refine then_normal ?_
  refine fr_eq (b := ⟨([x0, x1, undef, undef, (.bool false), undef, undef, undef, undef, undef, undef, undef, undef, undef, undef, undef, undef, undef, undef, undef, undef, undef, undef, undef, undef, undef, undef, undef, undef, undef, undef, undef, undef, undef, undef, undef, undef, undef, undef, undef, undef, undef, undef, undef, undef, undef, undef, undef, undef, undef] ++ [undef, undef, undef, undef, undef, undef, undef, undef, undef, undef, undef, undef, undef, undef, undef, undef, undef, undef, undef, undef, undef, undef, undef, undef, undef, undef, undef, undef, undef, undef, undef, undef, undef, undef, undef, undef, undef, undef, undef, undef, undef, undef, undef, undef, undef, undef, undef, undef, undef, undef]).toArray, []⟩) (by kernel_rfl) ?_
  refine wp_seq ?_
  refine wp_seq ?_
  refine lwp_list ?_
  refine ls_move (x := x0) (by kernel_rfl) (by kernel_rfl) ?_
  refine ls_p (d := some 17) (by kernel_rfl) (by kernel_rfl) (p_len Try.underlying30 (by kernel_rfl) H) (fun x17 H => ?_)
  refine ls_p (d := some 18) (by kernel_rfl) (by kernel_rfl) (p_sGt (by kernel_rfl) (by kernel_rfl) H) (fun x18 H => ?_)
  refine ls_move (x := x18) (by kernel_rfl) (by kernel_rfl) ?_
  refine ls_or [(), (), (), ()] (fun K a w => ∃ (D : Nat → Value) (x23 : Value), a = ⟨([x0, x1, undef, undef, (.bool false), undef, undef, undef, undef, undef, undef, undef, undef, undef, undef, undef, x0, x17, x18, x18, (D 0), (D 1), (D 2), x23, undef, undef, undef, undef, undef, undef, undef, undef, undef, undef, undef, undef, undef, undef, undef, undef, undef, undef, undef, undef, undef, undef, undef, undef, undef, undef] ++ [undef, undef, undef, undef, undef, undef, undef, undef, undef, undef, undef, undef, undef, undef, undef, undef, undef, undef, undef, undef, undef, undef, undef, undef, undef, undef, undef, undef, undef, undef, undef, undef, undef, undef, undef, undef, undef, undef, undef, undef, undef, undef, undef, undef, undef, undef, undef, undef, undef, undef]).toArray, []⟩ ∧ At w0 w h ∧ K x23) H (fun hb_3 H => ?_) (fun hb_3 H => ?_) ?_
  · refine ls_move (x := x1) (by rw [hb_3]; kernel_rfl) (by kernel_rfl) ?_
    refine ls_p (d := some 21) (by kernel_rfl) (by rw [hb_3]; kernel_rfl) (p_len Try.underlying30 (by kernel_rfl) H) (fun x21 H => ?_)
    refine ls_fr (b := ⟨([x0, x1, undef, undef, (.bool false), undef, undef, undef, undef, undef, undef, undef, undef, undef, undef, undef, x0, x17, x18, x18, x1, x21, undef, undef, undef, undef, undef, undef, undef, undef, undef, undef, undef, undef, undef, undef, undef, undef, undef, undef, undef, undef, undef, undef, undef, undef, undef, undef, undef, undef] ++ [undef, undef, undef, undef, undef, undef, undef, undef, undef, undef, undef, undef, undef, undef, undef, undef, undef, undef, undef, undef, undef, undef, undef, undef, undef, undef, undef, undef, undef, undef, undef, undef, undef, undef, undef, undef, undef, undef, undef, undef, undef, undef, undef, undef, undef, undef, undef, undef, undef, undef]).toArray, []⟩) (by kernel_rfl) ?_
    refine ls_p (d := some 22) (by kernel_rfl) (by rw [hb_3]; kernel_rfl) (p_sGt (by kernel_rfl) (by kernel_rfl) H) (fun x22 H => ?_)
    refine ls_pick_f (y := x22) (by kernel_rfl) (by rw [hb_3]; kernel_rfl) (by kernel_rfl) ?_
    refine ls_nil ?_
    refine then_normal ?_
    exact ⟨(fun i => ([x1, x21, x22]).getD i undef), x22, by kernel_rfl, HA, H⟩
  · refine ls_skip (d := some 20) (by kernel_rfl) (by rw [hb_3]; kernel_rfl) ?_
    refine ls_skip (d := some 21) (by kernel_rfl) (by rw [hb_3]; kernel_rfl) ?_
    refine ls_fr (b := ⟨([x0, x1, undef, undef, (.bool false), undef, undef, undef, undef, undef, undef, undef, undef, undef, undef, undef, x0, x17, x18, x18, undef, undef, undef, undef, undef, undef, undef, undef, undef, undef, undef, undef, undef, undef, undef, undef, undef, undef, undef, undef, undef, undef, undef, undef, undef, undef, undef, undef, undef, undef] ++ [undef, undef, undef, undef, undef, undef, undef, undef, undef, undef, undef, undef, undef, undef, undef, undef, undef, undef, undef, undef, undef, undef, undef, undef, undef, undef, undef, undef, undef, undef, undef, undef, undef, undef, undef, undef, undef, undef, undef, undef, undef, undef, undef, undef, undef, undef, undef, undef, undef, undef]).toArray, []⟩) (by kernel_rfl) ?_
    refine ls_skip (d := some 22) (by kernel_rfl) (by rw [hb_3]; kernel_rfl) ?_
    refine ls_pick_t (x := (.bool true)) (by kernel_rfl) (by rw [hb_3]; kernel_rfl) (by kernel_rfl) ?_
    refine ls_nil ?_
    refine then_normal ?_
    exact ⟨(fun i => ([undef, undef, undef]).getD i undef), (.bool true), by kernel_rfl, HA, H⟩
  · rintro _ w ⟨D, x23, rfl, HA, H⟩
    refine ls_nil ?_
    refine then_normal ?_
    refine fr_eq (b := ⟨([x0, x1, undef, undef, (.bool false), undef, undef, undef, undef, undef, undef, undef, undef, undef, undef, undef, x0, x17, x18, x18, (D 0), (D 1), (D 2), x23, undef, undef, undef, undef, undef, undef, undef, undef, undef, undef, undef, undef, undef, undef, undef, undef, undef, undef, undef, undef, undef, undef, undef, undef, undef, undef] ++ [undef, undef, undef, undef, undef, undef, undef, undef, undef, undef, undef, undef, undef, undef, undef, undef, undef, undef, undef, undef, undef, undef, undef, undef, undef, undef, undef, undef, undef, undef, undef, undef, undef, undef, undef, undef, undef, undef, undef, undef, undef, undef, undef, undef, undef, undef, undef, undef, undef, undef]).toArray, []⟩) (by kernel_rfl) ?_
    refine wp_if rfl H (fun H => ?_) (fun H => ?_)
    · refine wp_seq ?_
      refine lwp_list ?_
      refine ls_d (d := some 24) (by kernel_rfl) (by kernel_rfl) HA (d_call (by kernel_rfl) (by kernel_rfl) H) (fun x24 h w_1 H HA_1 => ?_)
      refine ls_assign (x := x24) (by kernel_rfl) (by kernel_rfl) ?_
      refine ls_nil ?_
      refine then_normal ?_
      refine fr_eq (b := ⟨([x0, x1, undef, undef, x24, undef, undef, undef, undef, undef, undef, undef, undef, undef, undef, undef, x0, x17, x18, x18, (D 0), (D 1), (D 2), x23, x24, undef, undef, undef, undef, undef, undef, undef, undef, undef, undef, undef, undef, undef, undef, undef, undef, undef, undef, undef, undef, undef, undef, undef, undef, undef] ++ [undef, undef, undef, undef, undef, undef, undef, undef, undef, undef, undef, undef, undef, undef, undef, undef, undef, undef, undef, undef, undef, undef, undef, undef, undef, undef, undef, undef, undef, undef, undef, undef, undef, undef, undef, undef, undef, undef, undef, undef, undef, undef, undef, undef, undef, undef, undef, undef, undef, undef]).toArray, []⟩) (by kernel_rfl) ?_
      refine wp_ret ?_
      refine then_ret ?_
      exact end1 (Try.results7) (by kernel_rfl) (by kernel_rfl) HA_1 H _ (.inr rfl)
    · refine wp_skip ?_
      refine then_normal ?_
      refine fr_eq (b := ⟨([x0, x1, undef, undef, (.bool false), undef, undef, undef, undef, undef, undef, undef, undef, undef, undef, undef, x0, x17, x18, x18, (D 0), (D 1), (D 2), x23, undef, undef, undef, undef, undef, undef, undef, undef, undef, undef, undef, undef, undef, undef, undef, undef, undef, undef, undef, undef, undef, undef, undef, undef, undef, undef] ++ [undef, undef, undef, undef, undef, undef, undef, undef, undef, undef, undef, undef, undef, undef, undef, undef, undef, undef, undef, undef, undef, undef, undef, undef, undef, undef, undef, undef, undef, undef, undef, undef, undef, undef, undef, undef, undef, undef, undef, undef, undef, undef, undef, undef, undef, undef, undef, undef, undef, undef]).toArray, []⟩) (by kernel_rfl) ?_
      refine wp_seq ?_
      refine lwp_list ?_
      refine ls_d (d := some 25) (by kernel_rfl) (by kernel_rfl) HA (d_call (by kernel_rfl) (by kernel_rfl) H) (fun x25 h_1 w_2 H HA_2 => ?_)
      refine ls_d (d := some 26) (by kernel_rfl) (by kernel_rfl) HA_2 (d_call (by kernel_rfl) (by kernel_rfl) H) (fun x26 h_2 w_3 H HA_3 => ?_)
      refine ls_assign (x := x26) (by kernel_rfl) (by kernel_rfl) ?_
      refine ls_nil ?_
      refine then_normal ?_
      refine fr_eq (b := ⟨([x0, x1, undef, undef, (.bool false), x26, undef, undef, undef, undef, undef, undef, undef, undef, undef, undef, x0, x17, x18, x18, (D 0), (D 1), (D 2), x23, undef, x25, x26, undef, undef, undef, undef, undef, undef, undef, undef, undef, undef, undef, undef, undef, undef, undef, undef, undef, undef, undef, undef, undef, undef, undef] ++ [undef, undef, undef, undef, undef, undef, undef, undef, undef, undef, undef, undef, undef, undef, undef, undef, undef, undef, undef, undef, undef, undef, undef, undef, undef, undef, undef, undef, undef, undef, undef, undef, undef, undef, undef, undef, undef, undef, undef, undef, undef, undef, undef, undef, undef, undef, undef, undef, undef, undef]).toArray, []⟩) (by kernel_rfl) ?_
      refine wp_seq ?_
      refine wp_seq ?_
      refine lwp_list ?_
      refine ls_move (x := x26) (by kernel_rfl) (by kernel_rfl) ?_
      refine ls_p (d := some 28) (by kernel_rfl) (by kernel_rfl) (p_eqlNil Try.underlying24 (by kernel_rfl) (by kernel_rfl) H) (fun x28 H => ?_)
      refine ls_nil ?_
      refine then_normal ?_
      refine fr_eq (b := ⟨([x0, x1, undef, undef, (.bool false), x26, undef, undef, undef, undef, undef, undef, undef, undef, undef, undef, x0, x17, x18, x18, (D 0), (D 1), (D 2), x23, undef, x25, x26, x26, x28, undef, undef, undef, undef, undef, undef, undef, undef, undef, undef, undef, undef, undef, undef, undef, undef, undef, undef, undef, undef, undef] ++ [undef, undef, undef, undef, undef, undef, undef, undef, undef, undef, undef, undef, undef, undef, undef, undef, undef, undef, undef, undef, undef, undef, undef, undef, undef, undef, undef, undef, undef, undef, undef, undef, undef, undef, undef, undef, undef, undef, undef, undef, undef, undef, undef, undef, undef, undef, undef, undef, undef, undef]).toArray, []⟩) (by kernel_rfl) ?_
      refine wp_if rfl H (fun H => ?_) (fun H => ?_)
      · refine wp_seq ?_
        refine lwp_list ?_
        refine ls_assign (x := (.bool false)) (by kernel_rfl) (by kernel_rfl) ?_
        refine ls_nil ?_
        refine then_normal ?_
        refine fr_eq (b := ⟨([x0, x1, undef, undef, (.bool false), x26, undef, undef, undef, undef, undef, undef, undef, undef, undef, undef, x0, x17, x18, x18, (D 0), (D 1), (D 2), x23, undef, x25, x26, x26, x28, undef, undef, undef, undef, undef, undef, undef, undef, undef, undef, undef, undef, undef, undef, undef, undef, undef, undef, undef, undef, undef] ++ [undef, undef, undef, undef, undef, undef, undef, undef, undef, undef, undef, undef, undef, undef, undef, undef, undef, undef, undef, undef, undef, undef, undef, undef, undef, undef, undef, undef, undef, undef, undef, undef, undef, undef, undef, undef, undef, undef, undef, undef, undef, undef, undef, undef, undef, undef, undef, undef, undef, undef]).toArray, []⟩) (by kernel_rfl) ?_
        refine wp_ret ?_
        refine then_ret ?_
        exact end1 (Try.results7) (by kernel_rfl) (by kernel_rfl) HA_3 H _ (.inr rfl)
      · refine wp_skip ?_
        refine then_normal ?_
        refine fr_eq (b := ⟨([x0, x1, undef, undef, (.bool false), x26, undef, undef, undef, undef, undef, undef, undef, undef, undef, undef, x0, x17, x18, x18, (D 0), (D 1), (D 2), x23, undef, x25, x26, x26, x28, undef, undef, undef, undef, undef, undef, undef, undef, undef, undef, undef, undef, undef, undef, undef, undef, undef, undef, undef, undef, undef] ++ [undef, undef, undef, undef, undef, undef, undef, undef, undef, undef, undef, undef, undef, undef, undef, undef, undef, undef, undef, undef, undef, undef, undef, undef, undef, undef, undef, undef, undef, undef, undef, undef, undef, undef, undef, undef, undef, undef, undef, undef, undef, undef, undef, undef, undef, undef, undef, undef, undef, undef]).toArray, []⟩) (by kernel_rfl) ?_
        refine wp_seq ?_
        refine wp_seq ?_
        refine lwp_list ?_
        refine ls_assign (x := (.int .i64 0)) (by kernel_rfl) (by kernel_rfl) ?_
        refine ls_nil ?_
        refine then_normal ?_
        refine fr_eq (b := ⟨([x0, x1, undef, undef, (.bool false), x26, (.int .i64 0), undef, undef, undef, undef, undef, undef, undef, undef, undef, x0, x17, x18, x18, (D 0), (D 1), (D 2), x23, undef, x25, x26, x26, x28, undef, undef, undef, undef, undef, undef, undef, undef, undef, undef, undef, undef, undef, undef, undef, undef, undef, undef, undef, undef, undef] ++ [undef, undef, undef, undef, undef, undef, undef, undef, undef, undef, undef, undef, undef, undef, undef, undef, undef, undef, undef, undef, undef, undef, undef, undef, undef, undef, undef, undef, undef, undef, undef, undef, undef, undef, undef, undef, undef, undef, undef, undef, undef, undef, undef, undef, undef, undef, undef, undef, undef, undef]).toArray, []⟩) (by kernel_rfl) ?_
        refine wp_block ?_
        obtain ⟨I, m, H0, HB⟩ := H
        refine wp_loop (fun a w => ∃ (D_1 : Nat → Value) (x6 : Value) (h_3 : Heap), a = ⟨([x0, x1, undef, undef, (.bool false), x26, x6, undef, undef, undef, undef, undef, undef, undef, undef, undef, x0, x17, x18, x18, (D 0), (D 1), (D 2), x23, undef, x25, x26, x26, x28, (D_1 0), (D_1 1), (D_1 2), (D_1 3), (D_1 4), (D_1 5), (D_1 6), (D_1 7), (D_1 8), (D_1 9), (D_1 10), (D_1 11), (D_1 12), (D_1 13), undef, undef, undef, undef, undef, undef, undef] ++ [undef, undef, undef, undef, undef, undef, undef, undef, undef, undef, undef, undef, undef, undef, undef, undef, undef, undef, undef, undef, undef, undef, undef, undef, undef, undef, undef, undef, undef, undef, undef, undef, undef, undef, undef, undef, undef, undef, undef, undef, undef, undef, undef, undef, undef, undef, undef, undef, undef, undef]).toArray, []⟩ ∧ At w0 w h_3 ∧ I x6 h_3) (fun a w => m (a.tmps.getD 6 undef) w.heap) ?_ ?_
        · exact ⟨(fun i => ([undef, undef, undef, undef, undef, undef, undef, undef, undef, undef, undef, undef, undef, undef]).getD i undef), (.int .i64 0), h_2, by kernel_rfl, HA_3, H0⟩
        · rintro _ w_4 ⟨D_1, x6, h_3, rfl, HA_4, HI⟩
          have H : betonylaw18_LdiscErase_l1 R x0 x1 x26 (fun x6' h' => I x6' h' ∧ m x6' h' < m x6 h_3) x6 h_3 := HB x6 h_3 HI
          clear HB H0 HI
          unfold betonylaw18_LdiscErase_l1 at H
          refine wp_seq ?_
          refine wp_seq ?_
          refine lwp_list ?_
          refine ls_move (x := x6) (by kernel_rfl) (by kernel_rfl) ?_
          refine ls_move (x := x0) (by kernel_rfl) (by kernel_rfl) ?_
          refine ls_p (d := some 31) (by kernel_rfl) (by kernel_rfl) (p_len Try.underlying30 (by kernel_rfl) H) (fun x31 H => ?_)
          refine ls_p (d := some 32) (by kernel_rfl) (by kernel_rfl) (p_sLt (by kernel_rfl) (by kernel_rfl) H) (fun x32 H => ?_)
          refine ls_nil ?_
          refine then_normal ?_
          refine fr_eq (b := ⟨([x0, x1, undef, undef, (.bool false), x26, x6, undef, undef, undef, undef, undef, undef, undef, undef, undef, x0, x17, x18, x18, (D 0), (D 1), (D 2), x23, undef, x25, x26, x26, x28, x6, x0, x31, x32, (D_1 4), (D_1 5), (D_1 6), (D_1 7), (D_1 8), (D_1 9), (D_1 10), (D_1 11), (D_1 12), (D_1 13), undef, undef, undef, undef, undef, undef, undef] ++ [undef, undef, undef, undef, undef, undef, undef, undef, undef, undef, undef, undef, undef, undef, undef, undef, undef, undef, undef, undef, undef, undef, undef, undef, undef, undef, undef, undef, undef, undef, undef, undef, undef, undef, undef, undef, undef, undef, undef, undef, undef, undef, undef, undef, undef, undef, undef, undef, undef, undef]).toArray, []⟩) (by kernel_rfl) ?_
          refine wp_if rfl H (fun H => ?_) (fun H => ?_)
          · refine wp_skip ?_
            refine then_normal ?_
            refine fr_eq (b := ⟨([x0, x1, undef, undef, (.bool false), x26, x6, undef, undef, undef, undef, undef, undef, undef, undef, undef, x0, x17, x18, x18, (D 0), (D 1), (D 2), x23, undef, x25, x26, x26, x28, x6, x0, x31, x32, (D_1 4), (D_1 5), (D_1 6), (D_1 7), (D_1 8), (D_1 9), (D_1 10), (D_1 11), (D_1 12), (D_1 13), undef, undef, undef, undef, undef, undef, undef] ++ [undef, undef, undef, undef, undef, undef, undef, undef, undef, undef, undef, undef, undef, undef, undef, undef, undef, undef, undef, undef, undef, undef, undef, undef, undef, undef, undef, undef, undef, undef, undef, undef, undef, undef, undef, undef, undef, undef, undef, undef, undef, undef, undef, undef, undef, undef, undef, undef, undef, undef]).toArray, []⟩) (by kernel_rfl) ?_
            refine wp_seq ?_
            refine wp_block ?_
            refine lwp_list ?_
            refine ls_move (x := x26) (by kernel_rfl) (by kernel_rfl) ?_
            refine ls_move (x := x0) (by kernel_rfl) (by kernel_rfl) ?_
            refine ls_move (x := x6) (by kernel_rfl) (by kernel_rfl) ?_
            refine ls_p (d := some 38) (by kernel_rfl) (by kernel_rfl) (p_ixs Try.underlying30 Try.sizeOf5 (by kernel_rfl) (by kernel_rfl) H) (fun x38 H => ?_)
            refine ls_y (d := some 39) (by kernel_rfl) (by kernel_rfl) HA_4 (y_ld Try.isAgg5 (by kernel_rfl) H) (fun x39 H => ?_)
            refine ls_p (d := some 40) (by kernel_rfl) (by kernel_rfl) (p_rem (by kernel_rfl) (by kernel_rfl) H) (fun x40 H => ?_)
            refine ls_fr (b := ⟨([x0, x1, undef, undef, (.bool false), x26, x6, undef, undef, undef, undef, undef, undef, undef, undef, undef, x0, x17, x18, x18, (D 0), (D 1), (D 2), x23, undef, x25, x26, x26, x28, x6, x0, x31, x32, (D_1 4), (D_1 5), x26, x0, x6, x38, x39, x40, (D_1 12), (D_1 13), undef, undef, undef, undef, undef, undef, undef] ++ [undef, undef, undef, undef, undef, undef, undef, undef, undef, undef, undef, undef, undef, undef, undef, undef, undef, undef, undef, undef, undef, undef, undef, undef, undef, undef, undef, undef, undef, undef, undef, undef, undef, undef, undef, undef, undef, undef, undef, undef, undef, undef, undef, undef, undef, undef, undef, undef, undef, undef]).toArray, []⟩) (by kernel_rfl) ?_
            refine ls_p (d := some 41) (by kernel_rfl) (by kernel_rfl) (p_add (by kernel_rfl) (by kernel_rfl) H) (fun x41 H => ?_)
            refine ls_d (d := some 42) (by kernel_rfl) (by kernel_rfl) HA_4 (d_call (by kernel_rfl) (by kernel_rfl) H) (fun x42 h_4 w_5 H HA_5 => ?_)
            refine ls_nil ?_
            refine block_normal ?_
            refine then_normal ?_
            refine fr_eq (b := ⟨([x0, x1, undef, undef, (.bool false), x26, x6, undef, undef, undef, undef, undef, undef, undef, undef, undef, x0, x17, x18, x18, (D 0), (D 1), (D 2), x23, undef, x25, x26, x26, x28, x6, x0, x31, x32, (D_1 4), (D_1 5), x26, x0, x6, x38, x39, x40, x41, x42, undef, undef, undef, undef, undef, undef, undef] ++ [undef, undef, undef, undef, undef, undef, undef, undef, undef, undef, undef, undef, undef, undef, undef, undef, undef, undef, undef, undef, undef, undef, undef, undef, undef, undef, undef, undef, undef, undef, undef, undef, undef, undef, undef, undef, undef, undef, undef, undef, undef, undef, undef, undef, undef, undef, undef, undef, undef, undef]).toArray, []⟩) (by kernel_rfl) ?_
            refine lwp_list ?_
            refine ls_move (x := x6) (by kernel_rfl) (by kernel_rfl) ?_
            refine ls_p (d := some 34) (by kernel_rfl) (by kernel_rfl) (p_add (by kernel_rfl) (by kernel_rfl) H) (fun x34 H => ?_)
            refine ls_assign (x := x34) (by kernel_rfl) (by kernel_rfl) ?_
            refine ls_nil ?_
            exact ⟨⟨(fun i => ([x6, x0, x31, x32, x6, x34, x26, x0, x6, x38, x39, x40, x41, x42]).getD i undef), x34, h_4, by kernel_rfl, HA_5, H.1⟩, loop_lt HA_5.heap HA_4.heap (by kernel_rfl) (by kernel_rfl) H.2⟩
          · refine wp_exit ?_
            refine then_exit ?_
            refine then_exit ?_
            refine block_exit ?_
            refine then_normal ?_
            refine fr_eq (b := ⟨([x0, x1, undef, undef, (.bool false), x26, x6, undef, undef, undef, undef, undef, undef, undef, undef, undef, x0, x17, x18, x18, (D 0), (D 1), (D 2), x23, undef, x25, x26, x26, x28, x6, x0, x31, x32, (D_1 4), (D_1 5), (D_1 6), (D_1 7), (D_1 8), (D_1 9), (D_1 10), (D_1 11), (D_1 12), (D_1 13), undef, undef, undef, undef, undef, undef, undef] ++ [undef, undef, undef, undef, undef, undef, undef, undef, undef, undef, undef, undef, undef, undef, undef, undef, undef, undef, undef, undef, undef, undef, undef, undef, undef, undef, undef, undef, undef, undef, undef, undef, undef, undef, undef, undef, undef, undef, undef, undef, undef, undef, undef, undef, undef, undef, undef, undef, undef, undef]).toArray, []⟩) (by kernel_rfl) ?_
            refine wp_seq ?_
            refine lwp_list ?_
            refine ls_move (x := x26) (by kernel_rfl) (by kernel_rfl) ?_
            refine ls_d (d := some 44) (by kernel_rfl) (by kernel_rfl) HA_4 (d_call (by kernel_rfl) (by kernel_rfl) H) (fun x44 h_5 w_6 H HA_6 => ?_)
            refine ls_assign (x := x44) (by kernel_rfl) (by kernel_rfl) ?_
            refine ls_nil ?_
            refine then_normal ?_
            refine fr_eq (b := ⟨([x0, x1, undef, undef, (.bool false), x26, x6, x44, undef, undef, undef, undef, undef, undef, undef, undef, x0, x17, x18, x18, (D 0), (D 1), (D 2), x23, undef, x25, x26, x26, x28, x6, x0, x31, x32, (D_1 4), (D_1 5), (D_1 6), (D_1 7), (D_1 8), (D_1 9), (D_1 10), (D_1 11), (D_1 12), (D_1 13), x26, x44, undef, undef, undef, undef, undef] ++ [undef, undef, undef, undef, undef, undef, undef, undef, undef, undef, undef, undef, undef, undef, undef, undef, undef, undef, undef, undef, undef, undef, undef, undef, undef, undef, undef, undef, undef, undef, undef, undef, undef, undef, undef, undef, undef, undef, undef, undef, undef, undef, undef, undef, undef, undef, undef, undef, undef, undef]).toArray, []⟩) (by kernel_rfl) ?_
            refine wp_seq ?_
            refine lwp_list ?_
            refine ls_assign (x := (.int .i64 0)) (by kernel_rfl) (by kernel_rfl) ?_
            refine ls_nil ?_
            refine then_normal ?_
            refine fr_eq (b := ⟨([x0, x1, undef, undef, (.bool false), x26, x6, x44, (.int .i64 0), undef, undef, undef, undef, undef, undef, undef, x0, x17, x18, x18, (D 0), (D 1), (D 2), x23, undef, x25, x26, x26, x28, x6, x0, x31, x32, (D_1 4), (D_1 5), (D_1 6), (D_1 7), (D_1 8), (D_1 9), (D_1 10), (D_1 11), (D_1 12), (D_1 13), x26, x44, undef, undef, undef, undef, undef] ++ [undef, undef, undef, undef, undef, undef, undef, undef, undef, undef, undef, undef, undef, undef, undef, undef, undef, undef, undef, undef, undef, undef, undef, undef, undef, undef, undef, undef, undef, undef, undef, undef, undef, undef, undef, undef, undef, undef, undef, undef, undef, undef, undef, undef, undef, undef, undef, undef, undef, undef]).toArray, []⟩) (by kernel_rfl) ?_
            refine wp_seq ?_
            refine wp_seq ?_
            refine lwp_list ?_
            refine ls_assign (x := (.int .i64 0)) (by kernel_rfl) (by kernel_rfl) ?_
            refine ls_nil ?_
            refine then_normal ?_
            refine fr_eq (b := ⟨([x0, x1, undef, undef, (.bool false), x26, x6, x44, (.int .i64 0), (.int .i64 0), undef, undef, undef, undef, undef, undef, x0, x17, x18, x18, (D 0), (D 1), (D 2), x23, undef, x25, x26, x26, x28, x6, x0, x31, x32, (D_1 4), (D_1 5), (D_1 6), (D_1 7), (D_1 8), (D_1 9), (D_1 10), (D_1 11), (D_1 12), (D_1 13), x26, x44, undef, undef, undef, undef, undef] ++ [undef, undef, undef, undef, undef, undef, undef, undef, undef, undef, undef, undef, undef, undef, undef, undef, undef, undef, undef, undef, undef, undef, undef, undef, undef, undef, undef, undef, undef, undef, undef, undef, undef, undef, undef, undef, undef, undef, undef, undef, undef, undef, undef, undef, undef, undef, undef, undef, undef, undef]).toArray, []⟩) (by kernel_rfl) ?_
            refine wp_block ?_
            obtain ⟨I_1, m_1, H0, HB⟩ := H
            refine wp_loop (fun a w => ∃ (D_2 : Nat → Value) (x8 x9 : Value) (h_6 : Heap), a = ⟨([x0, x1, undef, undef, (.bool false), x26, x6, x44, x8, x9, (D_2 0), (D_2 1), undef, undef, undef, undef, x0, x17, x18, x18, (D 0), (D 1), (D 2), x23, undef, x25, x26, x26, x28, x6, x0, x31, x32, (D_1 4), (D_1 5), (D_1 6), (D_1 7), (D_1 8), (D_1 9), (D_1 10), (D_1 11), (D_1 12), (D_1 13), x26, x44, (D_2 2), (D_2 3), (D_2 4), (D_2 5), (D_2 6)] ++ [(D_2 7), (D_2 8), (D_2 9), (D_2 10), (D_2 11), (D_2 12), (D_2 13), (D_2 14), (D_2 15), (D_2 16), (D_2 17), (D_2 18), (D_2 19), (D_2 20), (D_2 21), (D_2 22), undef, undef, undef, undef, undef, undef, undef, undef, undef, undef, undef, undef, undef, undef, undef, undef, undef, undef, undef, undef, undef, undef, undef, undef, undef, undef, undef, undef, undef, undef, undef, undef, undef, undef]).toArray, []⟩ ∧ At w0 w h_6 ∧ I_1 (x8, x9) h_6) (fun a w => m_1 ((a.tmps.getD 8 undef), (a.tmps.getD 9 undef)) w.heap) ?_ ?_
            · exact ⟨(fun i => ([undef, undef, undef, undef, undef, undef, undef, undef, undef, undef, undef, undef, undef, undef, undef, undef, undef, undef, undef, undef, undef, undef, undef]).getD i undef), (.int .i64 0), (.int .i64 0), h_5, by kernel_rfl, HA_6, H0⟩
            · rintro _ w_7 ⟨D_2, x8, x9, h_6, rfl, HA_7, HI⟩
              have H : betonylaw18_LdiscErase_l2 R x1 x26 x44 (fun x8' x9' h' => I_1 (x8', x9') h' ∧ m_1 (x8', x9') h' < m_1 (x8, x9) h_6) x8 x9 h_6 := HB (x8, x9) h_6 HI
              clear HB H0 HI
              unfold betonylaw18_LdiscErase_l2 at H
              refine wp_seq ?_
              refine wp_seq ?_
              refine lwp_list ?_
              refine ls_move (x := x9) (by kernel_rfl) (by kernel_rfl) ?_
              refine ls_move (x := x1) (by kernel_rfl) (by kernel_rfl) ?_
              refine ls_p (d := some 47) (by kernel_rfl) (by kernel_rfl) (p_len Try.underlying30 (by kernel_rfl) H) (fun x47 H => ?_)
              refine ls_p (d := some 48) (by kernel_rfl) (by kernel_rfl) (p_sLt (by kernel_rfl) (by kernel_rfl) H) (fun x48 H => ?_)
              refine ls_nil ?_
              refine then_normal ?_
              refine fr_eq (b := ⟨([x0, x1, undef, undef, (.bool false), x26, x6, x44, x8, x9, (D_2 0), (D_2 1), undef, undef, undef, undef, x0, x17, x18, x18, (D 0), (D 1), (D 2), x23, undef, x25, x26, x26, x28, x6, x0, x31, x32, (D_1 4), (D_1 5), (D_1 6), (D_1 7), (D_1 8), (D_1 9), (D_1 10), (D_1 11), (D_1 12), (D_1 13), x26, x44, x9, x1, x47, x48, (D_2 6)] ++ [(D_2 7), (D_2 8), (D_2 9), (D_2 10), (D_2 11), (D_2 12), (D_2 13), (D_2 14), (D_2 15), (D_2 16), (D_2 17), (D_2 18), (D_2 19), (D_2 20), (D_2 21), (D_2 22), undef, undef, undef, undef, undef, undef, undef, undef, undef, undef, undef, undef, undef, undef, undef, undef, undef, undef, undef, undef, undef, undef, undef, undef, undef, undef, undef, undef, undef, undef, undef, undef, undef, undef]).toArray, []⟩) (by kernel_rfl) ?_
              refine wp_if rfl H (fun H => ?_) (fun H => ?_)
              · refine wp_skip ?_
                refine then_normal ?_
                refine fr_eq (b := ⟨([x0, x1, undef, undef, (.bool false), x26, x6, x44, x8, x9, (D_2 0), (D_2 1), undef, undef, undef, undef, x0, x17, x18, x18, (D 0), (D 1), (D 2), x23, undef, x25, x26, x26, x28, x6, x0, x31, x32, (D_1 4), (D_1 5), (D_1 6), (D_1 7), (D_1 8), (D_1 9), (D_1 10), (D_1 11), (D_1 12), (D_1 13), x26, x44, x9, x1, x47, x48, (D_2 6)] ++ [(D_2 7), (D_2 8), (D_2 9), (D_2 10), (D_2 11), (D_2 12), (D_2 13), (D_2 14), (D_2 15), (D_2 16), (D_2 17), (D_2 18), (D_2 19), (D_2 20), (D_2 21), (D_2 22), undef, undef, undef, undef, undef, undef, undef, undef, undef, undef, undef, undef, undef, undef, undef, undef, undef, undef, undef, undef, undef, undef, undef, undef, undef, undef, undef, undef, undef, undef, undef, undef, undef, undef]).toArray, []⟩) (by kernel_rfl) ?_
                refine wp_seq ?_
                refine wp_block ?_
                refine wp_seq ?_
                refine lwp_list ?_
                refine ls_move (x := x26) (by kernel_rfl) (by kernel_rfl) ?_
                refine ls_move (x := x1) (by kernel_rfl) (by kernel_rfl) ?_
                refine ls_move (x := x9) (by kernel_rfl) (by kernel_rfl) ?_
                refine ls_p (d := some 55) (by kernel_rfl) (by kernel_rfl) (p_ixs Try.underlying30 Try.sizeOf5 (by kernel_rfl) (by kernel_rfl) H) (fun x55 H => ?_)
                refine ls_y (d := some 56) (by kernel_rfl) (by kernel_rfl) HA_7 (y_ld Try.isAgg5 (by kernel_rfl) H) (fun x56 H => ?_)
                refine ls_p (d := some 57) (by kernel_rfl) (by kernel_rfl) (p_rem (by kernel_rfl) (by kernel_rfl) H) (fun x57 H => ?_)
                refine ls_fr (b := ⟨([x0, x1, undef, undef, (.bool false), x26, x6, x44, x8, x9, (D_2 0), (D_2 1), undef, undef, undef, undef, x0, x17, x18, x18, (D 0), (D 1), (D 2), x23, undef, x25, x26, x26, x28, x6, x0, x31, x32, (D_1 4), (D_1 5), (D_1 6), (D_1 7), (D_1 8), (D_1 9), (D_1 10), (D_1 11), (D_1 12), (D_1 13), x26, x44, x9, x1, x47, x48, (D_2 6)] ++ [(D_2 7), (D_2 8), x26, x1, x9, x55, x56, x57, (D_2 15), (D_2 16), (D_2 17), (D_2 18), (D_2 19), (D_2 20), (D_2 21), (D_2 22), undef, undef, undef, undef, undef, undef, undef, undef, undef, undef, undef, undef, undef, undef, undef, undef, undef, undef, undef, undef, undef, undef, undef, undef, undef, undef, undef, undef, undef, undef, undef, undef, undef, undef]).toArray, []⟩) (by kernel_rfl) ?_
                refine ls_p (d := some 58) (by kernel_rfl) (by kernel_rfl) (p_add (by kernel_rfl) (by kernel_rfl) H) (fun x58 H => ?_)
                refine ls_d (d := some 59) (by kernel_rfl) (by kernel_rfl) HA_7 (d_call (by kernel_rfl) (by kernel_rfl) H) (fun x59 h_7 w_8 H HA_8 => ?_)
                refine ls_move (x := x59) (by kernel_rfl) (by kernel_rfl) ?_
                refine ls_p (d := some 60) (by kernel_rfl) (by kernel_rfl) (p_tup (by kernel_rfl) H) (fun x60 H => ?_)
                refine ls_p (d := some 61) (by kernel_rfl) (by kernel_rfl) (p_tup (by kernel_rfl) H) (fun x61 H => ?_)
                refine ls_assign (x := x60) (by kernel_rfl) (by kernel_rfl) ?_
                refine ls_fr (b := ⟨([x0, x1, undef, undef, (.bool false), x26, x6, x44, x8, x9, x60, (D_2 1), undef, undef, undef, undef, x0, x17, x18, x18, (D 0), (D 1), (D 2), x23, undef, x25, x26, x26, x28, x6, x0, x31, x32, (D_1 4), (D_1 5), (D_1 6), (D_1 7), (D_1 8), (D_1 9), (D_1 10), (D_1 11), (D_1 12), (D_1 13), x26, x44, x9, x1, x47, x48, (D_2 6)] ++ [(D_2 7), x59, x26, x1, x9, x55, x56, x57, x58, x59, x60, x61, (D_2 19), (D_2 20), (D_2 21), (D_2 22), undef, undef, undef, undef, undef, undef, undef, undef, undef, undef, undef, undef, undef, undef, undef, undef, undef, undef, undef, undef, undef, undef, undef, undef, undef, undef, undef, undef, undef, undef, undef, undef, undef, undef]).toArray, []⟩) (by kernel_rfl) ?_
                refine ls_assign (x := x61) (by kernel_rfl) (by kernel_rfl) ?_
                refine ls_nil ?_
                refine then_normal ?_
                refine fr_eq (b := ⟨([x0, x1, undef, undef, (.bool false), x26, x6, x44, x8, x9, x60, x61, undef, undef, undef, undef, x0, x17, x18, x18, (D 0), (D 1), (D 2), x23, undef, x25, x26, x26, x28, x6, x0, x31, x32, (D_1 4), (D_1 5), (D_1 6), (D_1 7), (D_1 8), (D_1 9), (D_1 10), (D_1 11), (D_1 12), (D_1 13), x26, x44, x9, x1, x47, x48, (D_2 6)] ++ [(D_2 7), x59, x26, x1, x9, x55, x56, x57, x58, x59, x60, x61, (D_2 19), (D_2 20), (D_2 21), (D_2 22), undef, undef, undef, undef, undef, undef, undef, undef, undef, undef, undef, undef, undef, undef, undef, undef, undef, undef, undef, undef, undef, undef, undef, undef, undef, undef, undef, undef, undef, undef, undef, undef, undef, undef]).toArray, []⟩) (by kernel_rfl) ?_
                refine lwp_list ?_
                refine ls_move (x := x8) (by kernel_rfl) (by kernel_rfl) ?_
                refine ls_move (x := x60) (by kernel_rfl) (by kernel_rfl) ?_
                refine ls_p (d := some 64) (by kernel_rfl) (by kernel_rfl) (p_len Try.underlying30 (by kernel_rfl) H) (fun x64 H => ?_)
                refine ls_p (d := some 65) (by kernel_rfl) (by kernel_rfl) (p_add (by kernel_rfl) (by kernel_rfl) H) (fun x65 H => ?_)
                refine ls_assign (x := x65) (by kernel_rfl) (by kernel_rfl) ?_
                refine ls_nil ?_
                refine block_normal ?_
                refine then_normal ?_
                refine fr_eq (b := ⟨([x0, x1, undef, undef, (.bool false), x26, x6, x44, x65, x9, x60, x61, undef, undef, undef, undef, x0, x17, x18, x18, (D 0), (D 1), (D 2), x23, undef, x25, x26, x26, x28, x6, x0, x31, x32, (D_1 4), (D_1 5), (D_1 6), (D_1 7), (D_1 8), (D_1 9), (D_1 10), (D_1 11), (D_1 12), (D_1 13), x26, x44, x9, x1, x47, x48, (D_2 6)] ++ [(D_2 7), x59, x26, x1, x9, x55, x56, x57, x58, x59, x60, x61, x8, x60, x64, x65, undef, undef, undef, undef, undef, undef, undef, undef, undef, undef, undef, undef, undef, undef, undef, undef, undef, undef, undef, undef, undef, undef, undef, undef, undef, undef, undef, undef, undef, undef, undef, undef, undef, undef]).toArray, []⟩) (by kernel_rfl) ?_
                refine lwp_list ?_
                refine ls_move (x := x9) (by kernel_rfl) (by kernel_rfl) ?_
                refine ls_p (d := some 50) (by kernel_rfl) (by kernel_rfl) (p_add (by kernel_rfl) (by kernel_rfl) H) (fun x50 H => ?_)
                refine ls_assign (x := x50) (by kernel_rfl) (by kernel_rfl) ?_
                refine ls_nil ?_
                exact ⟨⟨(fun i => ([x60, x61, x9, x1, x47, x48, x9, x50, x59, x26, x1, x9, x55, x56, x57, x58, x59, x60, x61, x8, x60, x64, x65]).getD i undef), x65, x50, h_7, by kernel_rfl, HA_8, H.1⟩, loop_lt HA_8.heap HA_7.heap (by kernel_rfl) (by kernel_rfl) H.2⟩
              · refine wp_exit ?_
                refine then_exit ?_
                refine then_exit ?_
                refine block_exit ?_
                refine then_normal ?_
                refine fr_eq (b := ⟨([x0, x1, undef, undef, (.bool false), x26, x6, x44, x8, x9, (D_2 0), (D_2 1), undef, undef, undef, undef, x0, x17, x18, x18, (D 0), (D 1), (D 2), x23, undef, x25, x26, x26, x28, x6, x0, x31, x32, (D_1 4), (D_1 5), (D_1 6), (D_1 7), (D_1 8), (D_1 9), (D_1 10), (D_1 11), (D_1 12), (D_1 13), x26, x44, x9, x1, x47, x48, (D_2 6)] ++ [(D_2 7), (D_2 8), (D_2 9), (D_2 10), (D_2 11), (D_2 12), (D_2 13), (D_2 14), (D_2 15), (D_2 16), (D_2 17), (D_2 18), (D_2 19), (D_2 20), (D_2 21), (D_2 22), undef, undef, undef, undef, undef, undef, undef, undef, undef, undef, undef, undef, undef, undef, undef, undef, undef, undef, undef, undef, undef, undef, undef, undef, undef, undef, undef, undef, undef, undef, undef, undef, undef, undef]).toArray, []⟩) (by kernel_rfl) ?_
                refine wp_seq ?_
                refine lwp_list ?_
                refine ls_assign (x := (.int .i64 0)) (by kernel_rfl) (by kernel_rfl) ?_
                refine ls_nil ?_
                refine then_normal ?_
                refine fr_eq (b := ⟨([x0, x1, undef, undef, (.bool false), x26, x6, x44, x8, x9, (D_2 0), (D_2 1), (.int .i64 0), undef, undef, undef, x0, x17, x18, x18, (D 0), (D 1), (D 2), x23, undef, x25, x26, x26, x28, x6, x0, x31, x32, (D_1 4), (D_1 5), (D_1 6), (D_1 7), (D_1 8), (D_1 9), (D_1 10), (D_1 11), (D_1 12), (D_1 13), x26, x44, x9, x1, x47, x48, (D_2 6)] ++ [(D_2 7), (D_2 8), (D_2 9), (D_2 10), (D_2 11), (D_2 12), (D_2 13), (D_2 14), (D_2 15), (D_2 16), (D_2 17), (D_2 18), (D_2 19), (D_2 20), (D_2 21), (D_2 22), undef, undef, undef, undef, undef, undef, undef, undef, undef, undef, undef, undef, undef, undef, undef, undef, undef, undef, undef, undef, undef, undef, undef, undef, undef, undef, undef, undef, undef, undef, undef, undef, undef, undef]).toArray, []⟩) (by kernel_rfl) ?_
                refine wp_seq ?_
                refine wp_seq ?_
                refine lwp_list ?_
                refine ls_assign (x := (.int .i64 0)) (by kernel_rfl) (by kernel_rfl) ?_
                refine ls_nil ?_
                refine then_normal ?_
                refine fr_eq (b := ⟨([x0, x1, undef, undef, (.bool false), x26, x6, x44, x8, x9, (D_2 0), (D_2 1), (.int .i64 0), (.int .i64 0), undef, undef, x0, x17, x18, x18, (D 0), (D 1), (D 2), x23, undef, x25, x26, x26, x28, x6, x0, x31, x32, (D_1 4), (D_1 5), (D_1 6), (D_1 7), (D_1 8), (D_1 9), (D_1 10), (D_1 11), (D_1 12), (D_1 13), x26, x44, x9, x1, x47, x48, (D_2 6)] ++ [(D_2 7), (D_2 8), (D_2 9), (D_2 10), (D_2 11), (D_2 12), (D_2 13), (D_2 14), (D_2 15), (D_2 16), (D_2 17), (D_2 18), (D_2 19), (D_2 20), (D_2 21), (D_2 22), undef, undef, undef, undef, undef, undef, undef, undef, undef, undef, undef, undef, undef, undef, undef, undef, undef, undef, undef, undef, undef, undef, undef, undef, undef, undef, undef, undef, undef, undef, undef, undef, undef, undef]).toArray, []⟩) (by kernel_rfl) ?_
                refine wp_block ?_
                obtain ⟨I_2, m_2, H0, HB⟩ := H
                refine wp_loop (fun a w => ∃ (D_3 : Nat → Value) (x12 x13 : Value) (h_8 : Heap), a = ⟨([x0, x1, undef, undef, (.bool false), x26, x6, x44, x8, x9, (D_2 0), (D_2 1), x12, x13, (D_3 0), (D_3 1), x0, x17, x18, x18, (D 0), (D 1), (D 2), x23, undef, x25, x26, x26, x28, x6, x0, x31, x32, (D_1 4), (D_1 5), (D_1 6), (D_1 7), (D_1 8), (D_1 9), (D_1 10), (D_1 11), (D_1 12), (D_1 13), x26, x44, x9, x1, x47, x48, (D_2 6)] ++ [(D_2 7), (D_2 8), (D_2 9), (D_2 10), (D_2 11), (D_2 12), (D_2 13), (D_2 14), (D_2 15), (D_2 16), (D_2 17), (D_2 18), (D_2 19), (D_2 20), (D_2 21), (D_2 22), (D_3 2), (D_3 3), (D_3 4), (D_3 5), (D_3 6), (D_3 7), (D_3 8), (D_3 9), (D_3 10), (D_3 11), (D_3 12), (D_3 13), (D_3 14), (D_3 15), (D_3 16), undef, undef, undef, undef, undef, undef, undef, undef, undef, undef, undef, undef, undef, undef, undef, undef, undef, undef, undef]).toArray, []⟩ ∧ At w0 w h_8 ∧ I_2 (x12, x13) h_8) (fun a w => m_2 ((a.tmps.getD 12 undef), (a.tmps.getD 13 undef)) w.heap) ?_ ?_
                · exact ⟨(fun i => ([undef, undef, undef, undef, undef, undef, undef, undef, undef, undef, undef, undef, undef, undef, undef, undef, undef]).getD i undef), (.int .i64 0), (.int .i64 0), h_6, by kernel_rfl, HA_7, H0⟩
                · rintro _ w_9 ⟨D_3, x12, x13, h_8, rfl, HA_9, HI⟩
                  have H : betonylaw18_LdiscErase_l3 R x1 x26 x44 x8 (fun x12' x13' h' => I_2 (x12', x13') h' ∧ m_2 (x12', x13') h' < m_2 (x12, x13) h_8) x12 x13 h_8 := HB (x12, x13) h_8 HI
                  clear HB H0 HI
                  unfold betonylaw18_LdiscErase_l3 at H
                  refine wp_seq ?_
                  refine wp_seq ?_
                  refine lwp_list ?_
                  refine ls_move (x := x13) (by kernel_rfl) (by kernel_rfl) ?_
                  refine ls_move (x := x1) (by kernel_rfl) (by kernel_rfl) ?_
                  refine ls_p (d := some 68) (by kernel_rfl) (by kernel_rfl) (p_len Try.underlying30 (by kernel_rfl) H) (fun x68 H => ?_)
                  refine ls_p (d := some 69) (by kernel_rfl) (by kernel_rfl) (p_sLt (by kernel_rfl) (by kernel_rfl) H) (fun x69 H => ?_)
                  refine ls_nil ?_
                  refine then_normal ?_
                  refine fr_eq (b := ⟨([x0, x1, undef, undef, (.bool false), x26, x6, x44, x8, x9, (D_2 0), (D_2 1), x12, x13, (D_3 0), (D_3 1), x0, x17, x18, x18, (D 0), (D 1), (D 2), x23, undef, x25, x26, x26, x28, x6, x0, x31, x32, (D_1 4), (D_1 5), (D_1 6), (D_1 7), (D_1 8), (D_1 9), (D_1 10), (D_1 11), (D_1 12), (D_1 13), x26, x44, x9, x1, x47, x48, (D_2 6)] ++ [(D_2 7), (D_2 8), (D_2 9), (D_2 10), (D_2 11), (D_2 12), (D_2 13), (D_2 14), (D_2 15), (D_2 16), (D_2 17), (D_2 18), (D_2 19), (D_2 20), (D_2 21), (D_2 22), x13, x1, x68, x69, (D_3 6), (D_3 7), (D_3 8), (D_3 9), (D_3 10), (D_3 11), (D_3 12), (D_3 13), (D_3 14), (D_3 15), (D_3 16), undef, undef, undef, undef, undef, undef, undef, undef, undef, undef, undef, undef, undef, undef, undef, undef, undef, undef, undef]).toArray, []⟩) (by kernel_rfl) ?_
                  refine wp_if rfl H (fun H => ?_) (fun H => ?_)
                  · refine wp_skip ?_
                    refine then_normal ?_
                    refine fr_eq (b := ⟨([x0, x1, undef, undef, (.bool false), x26, x6, x44, x8, x9, (D_2 0), (D_2 1), x12, x13, (D_3 0), (D_3 1), x0, x17, x18, x18, (D 0), (D 1), (D 2), x23, undef, x25, x26, x26, x28, x6, x0, x31, x32, (D_1 4), (D_1 5), (D_1 6), (D_1 7), (D_1 8), (D_1 9), (D_1 10), (D_1 11), (D_1 12), (D_1 13), x26, x44, x9, x1, x47, x48, (D_2 6)] ++ [(D_2 7), (D_2 8), (D_2 9), (D_2 10), (D_2 11), (D_2 12), (D_2 13), (D_2 14), (D_2 15), (D_2 16), (D_2 17), (D_2 18), (D_2 19), (D_2 20), (D_2 21), (D_2 22), x13, x1, x68, x69, (D_3 6), (D_3 7), (D_3 8), (D_3 9), (D_3 10), (D_3 11), (D_3 12), (D_3 13), (D_3 14), (D_3 15), (D_3 16), undef, undef, undef, undef, undef, undef, undef, undef, undef, undef, undef, undef, undef, undef, undef, undef, undef, undef, undef]).toArray, []⟩) (by kernel_rfl) ?_
                    refine wp_seq ?_
                    refine wp_block ?_
                    refine wp_seq ?_
                    refine lwp_list ?_
                    refine ls_move (x := x26) (by kernel_rfl) (by kernel_rfl) ?_
                    refine ls_d (d := some 74) (by kernel_rfl) (by kernel_rfl) HA_9 (d_call (by kernel_rfl) (by kernel_rfl) H) (fun x74 h_9 w_10 H HA_10 => ?_)
                    refine ls_move (x := x74) (by kernel_rfl) (by kernel_rfl) ?_
                    refine ls_p (d := some 75) (by kernel_rfl) (by kernel_rfl) (p_tup (by kernel_rfl) H) (fun x75 H => ?_)
                    refine ls_p (d := some 76) (by kernel_rfl) (by kernel_rfl) (p_tup (by kernel_rfl) H) (fun x76 H => ?_)
                    refine ls_assign (x := x75) (by kernel_rfl) (by kernel_rfl) ?_
                    refine ls_fr (b := ⟨([x0, x1, undef, undef, (.bool false), x26, x6, x44, x8, x9, (D_2 0), (D_2 1), x12, x13, x75, (D_3 1), x0, x17, x18, x18, (D 0), (D 1), (D 2), x23, undef, x25, x26, x26, x28, x6, x0, x31, x32, (D_1 4), (D_1 5), (D_1 6), (D_1 7), (D_1 8), (D_1 9), (D_1 10), (D_1 11), (D_1 12), (D_1 13), x26, x44, x9, x1, x47, x48, (D_2 6)] ++ [(D_2 7), (D_2 8), (D_2 9), (D_2 10), (D_2 11), (D_2 12), (D_2 13), (D_2 14), (D_2 15), (D_2 16), (D_2 17), (D_2 18), (D_2 19), (D_2 20), (D_2 21), (D_2 22), x13, x1, x68, x69, (D_3 6), (D_3 7), x74, x26, x74, x75, x76, (D_3 13), (D_3 14), (D_3 15), (D_3 16), undef, undef, undef, undef, undef, undef, undef, undef, undef, undef, undef, undef, undef, undef, undef, undef, undef, undef, undef]).toArray, []⟩) (by kernel_rfl) ?_
                    refine ls_assign (x := x76) (by kernel_rfl) (by kernel_rfl) ?_
                    refine ls_nil ?_
                    refine then_normal ?_
                    refine fr_eq (b := ⟨([x0, x1, undef, undef, (.bool false), x26, x6, x44, x8, x9, (D_2 0), (D_2 1), x12, x13, x75, x76, x0, x17, x18, x18, (D 0), (D 1), (D 2), x23, undef, x25, x26, x26, x28, x6, x0, x31, x32, (D_1 4), (D_1 5), (D_1 6), (D_1 7), (D_1 8), (D_1 9), (D_1 10), (D_1 11), (D_1 12), (D_1 13), x26, x44, x9, x1, x47, x48, (D_2 6)] ++ [(D_2 7), (D_2 8), (D_2 9), (D_2 10), (D_2 11), (D_2 12), (D_2 13), (D_2 14), (D_2 15), (D_2 16), (D_2 17), (D_2 18), (D_2 19), (D_2 20), (D_2 21), (D_2 22), x13, x1, x68, x69, (D_3 6), (D_3 7), x74, x26, x74, x75, x76, (D_3 13), (D_3 14), (D_3 15), (D_3 16), undef, undef, undef, undef, undef, undef, undef, undef, undef, undef, undef, undef, undef, undef, undef, undef, undef, undef, undef]).toArray, []⟩) (by kernel_rfl) ?_
                    refine lwp_list ?_
                    refine ls_move (x := x12) (by kernel_rfl) (by kernel_rfl) ?_
                    refine ls_move (x := x75) (by kernel_rfl) (by kernel_rfl) ?_
                    refine ls_p (d := some 79) (by kernel_rfl) (by kernel_rfl) (p_len Try.underlying30 (by kernel_rfl) H) (fun x79 H => ?_)
                    refine ls_p (d := some 80) (by kernel_rfl) (by kernel_rfl) (p_add (by kernel_rfl) (by kernel_rfl) H) (fun x80 H => ?_)
                    refine ls_assign (x := x80) (by kernel_rfl) (by kernel_rfl) ?_
                    refine ls_nil ?_
                    refine block_normal ?_
                    refine then_normal ?_
                    refine fr_eq (b := ⟨([x0, x1, undef, undef, (.bool false), x26, x6, x44, x8, x9, (D_2 0), (D_2 1), x80, x13, x75, x76, x0, x17, x18, x18, (D 0), (D 1), (D 2), x23, undef, x25, x26, x26, x28, x6, x0, x31, x32, (D_1 4), (D_1 5), (D_1 6), (D_1 7), (D_1 8), (D_1 9), (D_1 10), (D_1 11), (D_1 12), (D_1 13), x26, x44, x9, x1, x47, x48, (D_2 6)] ++ [(D_2 7), (D_2 8), (D_2 9), (D_2 10), (D_2 11), (D_2 12), (D_2 13), (D_2 14), (D_2 15), (D_2 16), (D_2 17), (D_2 18), (D_2 19), (D_2 20), (D_2 21), (D_2 22), x13, x1, x68, x69, (D_3 6), (D_3 7), x74, x26, x74, x75, x76, x12, x75, x79, x80, undef, undef, undef, undef, undef, undef, undef, undef, undef, undef, undef, undef, undef, undef, undef, undef, undef, undef, undef]).toArray, []⟩) (by kernel_rfl) ?_
                    refine lwp_list ?_
                    refine ls_move (x := x13) (by kernel_rfl) (by kernel_rfl) ?_
                    refine ls_p (d := some 71) (by kernel_rfl) (by kernel_rfl) (p_add (by kernel_rfl) (by kernel_rfl) H) (fun x71 H => ?_)
                    refine ls_assign (x := x71) (by kernel_rfl) (by kernel_rfl) ?_
                    refine ls_nil ?_
                    exact ⟨⟨(fun i => ([x75, x76, x13, x1, x68, x69, x13, x71, x74, x26, x74, x75, x76, x12, x75, x79, x80]).getD i undef), x80, x71, h_9, by kernel_rfl, HA_10, H.1⟩, loop_lt HA_10.heap HA_9.heap (by kernel_rfl) (by kernel_rfl) H.2⟩
                  · refine wp_exit ?_
                    refine then_exit ?_
                    refine then_exit ?_
                    refine block_exit ?_
                    refine then_normal ?_
                    refine fr_eq (b := ⟨([x0, x1, undef, undef, (.bool false), x26, x6, x44, x8, x9, (D_2 0), (D_2 1), x12, x13, (D_3 0), (D_3 1), x0, x17, x18, x18, (D 0), (D 1), (D 2), x23, undef, x25, x26, x26, x28, x6, x0, x31, x32, (D_1 4), (D_1 5), (D_1 6), (D_1 7), (D_1 8), (D_1 9), (D_1 10), (D_1 11), (D_1 12), (D_1 13), x26, x44, x9, x1, x47, x48, (D_2 6)] ++ [(D_2 7), (D_2 8), (D_2 9), (D_2 10), (D_2 11), (D_2 12), (D_2 13), (D_2 14), (D_2 15), (D_2 16), (D_2 17), (D_2 18), (D_2 19), (D_2 20), (D_2 21), (D_2 22), x13, x1, x68, x69, (D_3 6), (D_3 7), (D_3 8), (D_3 9), (D_3 10), (D_3 11), (D_3 12), (D_3 13), (D_3 14), (D_3 15), (D_3 16), undef, undef, undef, undef, undef, undef, undef, undef, undef, undef, undef, undef, undef, undef, undef, undef, undef, undef, undef]).toArray, []⟩) (by kernel_rfl) ?_
                    refine wp_seq ?_
                    refine lwp_list ?_
                    refine ls_move (x := x26) (by kernel_rfl) (by kernel_rfl) ?_
                    refine ls_d (d := some 82) (by kernel_rfl) (by kernel_rfl) HA_9 (d_call (by kernel_rfl) (by kernel_rfl) H) (fun x82 h_10 w_11 H HA_11 => ?_)
                    refine ls_move (x := x44) (by kernel_rfl) (by kernel_rfl) ?_
                    refine ls_d (d := some 84) (by kernel_rfl) (by kernel_rfl) HA_11 (d_call (by kernel_rfl) (by kernel_rfl) H) (fun x84 h_11 w_12 H HA_12 => ?_)
                    refine ls_move (x := x84) (by kernel_rfl) (by kernel_rfl) ?_
                    refine ls_and [(), (), (), (), ()] (fun K a w => ∃ (D_4 : Nat → Value) (x90 : Value), a = ⟨([x0, x1, undef, undef, (.bool false), x26, x6, x44, x8, x9, (D_2 0), (D_2 1), x12, x13, (D_3 0), (D_3 1), x0, x17, x18, x18, (D 0), (D 1), (D 2), x23, undef, x25, x26, x26, x28, x6, x0, x31, x32, (D_1 4), (D_1 5), (D_1 6), (D_1 7), (D_1 8), (D_1 9), (D_1 10), (D_1 11), (D_1 12), (D_1 13), x26, x44, x9, x1, x47, x48, (D_2 6)] ++ [(D_2 7), (D_2 8), (D_2 9), (D_2 10), (D_2 11), (D_2 12), (D_2 13), (D_2 14), (D_2 15), (D_2 16), (D_2 17), (D_2 18), (D_2 19), (D_2 20), (D_2 21), (D_2 22), x13, x1, x68, x69, (D_3 6), (D_3 7), (D_3 8), (D_3 9), (D_3 10), (D_3 11), (D_3 12), (D_3 13), (D_3 14), (D_3 15), (D_3 16), x26, x82, x44, x84, x84, (D_4 0), (D_4 1), (D_4 2), (D_4 3), x90, undef, undef, undef, undef, undef, undef, undef, undef, undef]).toArray, []⟩ ∧ At w0 w h_11 ∧ K x90) H (fun hb_2 H => ?_) (fun hb_2 H => ?_) ?_
                    · refine ls_move (x := x12) (by rw [hb_2]; kernel_rfl) (by kernel_rfl) ?_
                      refine ls_fr (b := ⟨([x0, x1, undef, undef, (.bool false), x26, x6, x44, x8, x9, (D_2 0), (D_2 1), x12, x13, (D_3 0), (D_3 1), x0, x17, x18, x18, (D 0), (D 1), (D 2), x23, undef, x25, x26, x26, x28, x6, x0, x31, x32, (D_1 4), (D_1 5), (D_1 6), (D_1 7), (D_1 8), (D_1 9), (D_1 10), (D_1 11), (D_1 12), (D_1 13), x26, x44, x9, x1, x47, x48, (D_2 6)] ++ [(D_2 7), (D_2 8), (D_2 9), (D_2 10), (D_2 11), (D_2 12), (D_2 13), (D_2 14), (D_2 15), (D_2 16), (D_2 17), (D_2 18), (D_2 19), (D_2 20), (D_2 21), (D_2 22), x13, x1, x68, x69, (D_3 6), (D_3 7), (D_3 8), (D_3 9), (D_3 10), (D_3 11), (D_3 12), (D_3 13), (D_3 14), (D_3 15), (D_3 16), x26, x82, x44, x84, x84, x12, undef, undef, undef, undef, undef, undef, undef, undef, undef, undef, undef, undef, undef]).toArray, []⟩) (by kernel_rfl) ?_
                      refine ls_move (x := x8) (by rw [hb_2]; kernel_rfl) (by kernel_rfl) ?_
                      refine ls_p (d := some 88) (by kernel_rfl) (by rw [hb_2]; kernel_rfl) (p_mul (by kernel_rfl) (by kernel_rfl) H) (fun x88 H => ?_)
                      refine ls_p (d := some 89) (by kernel_rfl) (by rw [hb_2]; kernel_rfl) (p_sEq (by kernel_rfl) (by kernel_rfl) H) (fun x89 H => ?_)
                      refine ls_pick_t (x := x89) (by kernel_rfl) (by rw [hb_2]; kernel_rfl) (by kernel_rfl) ?_
                      refine ls_nil ?_
                      refine then_normal ?_
                      exact ⟨(fun i => ([x12, x8, x88, x89]).getD i undef), x89, by kernel_rfl, HA_12, H⟩
                    · refine ls_skip (d := some 86) (by kernel_rfl) (by rw [hb_2]; kernel_rfl) ?_
                      refine ls_fr (b := ⟨([x0, x1, undef, undef, (.bool false), x26, x6, x44, x8, x9, (D_2 0), (D_2 1), x12, x13, (D_3 0), (D_3 1), x0, x17, x18, x18, (D 0), (D 1), (D 2), x23, undef, x25, x26, x26, x28, x6, x0, x31, x32, (D_1 4), (D_1 5), (D_1 6), (D_1 7), (D_1 8), (D_1 9), (D_1 10), (D_1 11), (D_1 12), (D_1 13), x26, x44, x9, x1, x47, x48, (D_2 6)] ++ [(D_2 7), (D_2 8), (D_2 9), (D_2 10), (D_2 11), (D_2 12), (D_2 13), (D_2 14), (D_2 15), (D_2 16), (D_2 17), (D_2 18), (D_2 19), (D_2 20), (D_2 21), (D_2 22), x13, x1, x68, x69, (D_3 6), (D_3 7), (D_3 8), (D_3 9), (D_3 10), (D_3 11), (D_3 12), (D_3 13), (D_3 14), (D_3 15), (D_3 16), x26, x82, x44, x84, x84, undef, undef, undef, undef, undef, undef, undef, undef, undef, undef, undef, undef, undef, undef]).toArray, []⟩) (by kernel_rfl) ?_
                      refine ls_skip (d := some 87) (by kernel_rfl) (by rw [hb_2]; kernel_rfl) ?_
                      refine ls_skip (d := some 88) (by kernel_rfl) (by rw [hb_2]; kernel_rfl) ?_
                      refine ls_skip (d := some 89) (by kernel_rfl) (by rw [hb_2]; kernel_rfl) ?_
                      refine ls_pick_f (y := (.bool false)) (by kernel_rfl) (by rw [hb_2]; kernel_rfl) (by kernel_rfl) ?_
                      refine ls_nil ?_
                      refine then_normal ?_
                      exact ⟨(fun i => ([undef, undef, undef, undef]).getD i undef), (.bool false), by kernel_rfl, HA_12, H⟩
                    · rintro _ w_13 ⟨D_4, x90, rfl, HA_13, H⟩
                      refine ls_move (x := x90) (by kernel_rfl) (by kernel_rfl) ?_
                      refine ls_and [(), (), (), (), ()] (fun K a w => ∃ (D_5 : Nat → Value) (x96 : Value), a = ⟨([x0, x1, undef, undef, (.bool false), x26, x6, x44, x8, x9, (D_2 0), (D_2 1), x12, x13, (D_3 0), (D_3 1), x0, x17, x18, x18, (D 0), (D 1), (D 2), x23, undef, x25, x26, x26, x28, x6, x0, x31, x32, (D_1 4), (D_1 5), (D_1 6), (D_1 7), (D_1 8), (D_1 9), (D_1 10), (D_1 11), (D_1 12), (D_1 13), x26, x44, x9, x1, x47, x48, (D_2 6)] ++ [(D_2 7), (D_2 8), (D_2 9), (D_2 10), (D_2 11), (D_2 12), (D_2 13), (D_2 14), (D_2 15), (D_2 16), (D_2 17), (D_2 18), (D_2 19), (D_2 20), (D_2 21), (D_2 22), x13, x1, x68, x69, (D_3 6), (D_3 7), (D_3 8), (D_3 9), (D_3 10), (D_3 11), (D_3 12), (D_3 13), (D_3 14), (D_3 15), (D_3 16), x26, x82, x44, x84, x84, (D_4 0), (D_4 1), (D_4 2), (D_4 3), x90, x90, (D_5 0), (D_5 1), (D_5 2), (D_5 3), x96, undef, undef, undef]).toArray, []⟩ ∧ At w0 w h_11 ∧ K x96) H (fun hb_1 H => ?_) (fun hb_1 H => ?_) ?_
                      · refine ls_move (x := x8) (by rw [hb_1]; kernel_rfl) (by kernel_rfl) ?_
                        refine ls_move (x := x1) (by rw [hb_1]; kernel_rfl) (by kernel_rfl) ?_
                        refine ls_p (d := some 94) (by kernel_rfl) (by rw [hb_1]; kernel_rfl) (p_len Try.underlying30 (by kernel_rfl) H) (fun x94 H => ?_)
                        refine ls_p (d := some 95) (by kernel_rfl) (by rw [hb_1]; kernel_rfl) (p_sEq (by kernel_rfl) (by kernel_rfl) H) (fun x95 H => ?_)
                        refine ls_pick_t (x := x95) (by kernel_rfl) (by rw [hb_1]; kernel_rfl) (by kernel_rfl) ?_
                        refine ls_nil ?_
                        refine then_normal ?_
                        exact ⟨(fun i => ([x8, x1, x94, x95]).getD i undef), x95, by kernel_rfl, HA_13, H⟩
                      · refine ls_skip (d := some 92) (by kernel_rfl) (by rw [hb_1]; kernel_rfl) ?_
                        refine ls_skip (d := some 93) (by kernel_rfl) (by rw [hb_1]; kernel_rfl) ?_
                        refine ls_skip (d := some 94) (by kernel_rfl) (by rw [hb_1]; kernel_rfl) ?_
                        refine ls_skip (d := some 95) (by kernel_rfl) (by rw [hb_1]; kernel_rfl) ?_
                        refine ls_pick_f (y := (.bool false)) (by kernel_rfl) (by rw [hb_1]; kernel_rfl) (by kernel_rfl) ?_
                        refine ls_nil ?_
                        refine then_normal ?_
                        exact ⟨(fun i => ([undef, undef, undef, undef]).getD i undef), (.bool false), by kernel_rfl, HA_13, H⟩
                      · rintro _ w_14 ⟨D_5, x96, rfl, HA_14, H⟩
                        refine ls_move (x := x96) (by kernel_rfl) (by kernel_rfl) ?_
                        refine ls_andh [(), ()] (fun K a w => ∃ (D_6 : Nat → Value) (x99 : Value) (h_12 : Heap), a = ⟨([x0, x1, undef, undef, (.bool false), x26, x6, x44, x8, x9, (D_2 0), (D_2 1), x12, x13, (D_3 0), (D_3 1), x0, x17, x18, x18, (D 0), (D 1), (D 2), x23, undef, x25, x26, x26, x28, x6, x0, x31, x32, (D_1 4), (D_1 5), (D_1 6), (D_1 7), (D_1 8), (D_1 9), (D_1 10), (D_1 11), (D_1 12), (D_1 13), x26, x44, x9, x1, x47, x48, (D_2 6)] ++ [(D_2 7), (D_2 8), (D_2 9), (D_2 10), (D_2 11), (D_2 12), (D_2 13), (D_2 14), (D_2 15), (D_2 16), (D_2 17), (D_2 18), (D_2 19), (D_2 20), (D_2 21), (D_2 22), x13, x1, x68, x69, (D_3 6), (D_3 7), (D_3 8), (D_3 9), (D_3 10), (D_3 11), (D_3 12), (D_3 13), (D_3 14), (D_3 15), (D_3 16), x26, x82, x44, x84, x84, (D_4 0), (D_4 1), (D_4 2), (D_4 3), x90, x90, (D_5 0), (D_5 1), (D_5 2), (D_5 3), x96, x96, (D_6 0), x99]).toArray, []⟩ ∧ At w0 w h_12 ∧ K x99 h_12) H (fun hb H => ?_) (fun hb H => ?_) ?_
                        · refine ls_d (d := some 98) (by kernel_rfl) (by rw [hb]; kernel_rfl) HA_14 (d_call (by kernel_rfl) (by kernel_rfl) H) (fun x98 h_13 w_16 H HA_16 => ?_)
                          refine ls_pick_t (x := x98) (by kernel_rfl) (by rw [hb]; kernel_rfl) (by kernel_rfl) ?_
                          refine ls_nil ?_
                          refine then_normal ?_
                          exact ⟨(fun i => ([x98]).getD i undef), x98, h_13, by kernel_rfl, HA_16, H⟩
                        · refine ls_skip (d := some 98) (by kernel_rfl) (by rw [hb]; kernel_rfl) ?_
                          refine ls_pick_f (y := (.bool false)) (by kernel_rfl) (by rw [hb]; kernel_rfl) (by kernel_rfl) ?_
                          refine ls_nil ?_
                          refine then_normal ?_
                          exact ⟨(fun i => ([undef]).getD i undef), (.bool false), h_11, by kernel_rfl, HA_14, H⟩
                        · rintro _ w_15 ⟨D_6, x99, h_12, rfl, HA_15, H⟩
                          refine ls_assign (x := x99) (by kernel_rfl) (by kernel_rfl) ?_
                          refine ls_nil ?_
                          refine then_normal ?_
                          refine fr_eq (b := ⟨([x0, x1, undef, undef, x99, x26, x6, x44, x8, x9, (D_2 0), (D_2 1), x12, x13, (D_3 0), (D_3 1), x0, x17, x18, x18, (D 0), (D 1), (D 2), x23, undef, x25, x26, x26, x28, x6, x0, x31, x32, (D_1 4), (D_1 5), (D_1 6), (D_1 7), (D_1 8), (D_1 9), (D_1 10), (D_1 11), (D_1 12), (D_1 13), x26, x44, x9, x1, x47, x48, (D_2 6)] ++ [(D_2 7), (D_2 8), (D_2 9), (D_2 10), (D_2 11), (D_2 12), (D_2 13), (D_2 14), (D_2 15), (D_2 16), (D_2 17), (D_2 18), (D_2 19), (D_2 20), (D_2 21), (D_2 22), x13, x1, x68, x69, (D_3 6), (D_3 7), (D_3 8), (D_3 9), (D_3 10), (D_3 11), (D_3 12), (D_3 13), (D_3 14), (D_3 15), (D_3 16), x26, x82, x44, x84, x84, (D_4 0), (D_4 1), (D_4 2), (D_4 3), x90, x90, (D_5 0), (D_5 1), (D_5 2), (D_5 3), x96, x96, (D_6 0), x99]).toArray, []⟩) (by kernel_rfl) ?_
                          refine wp_ret ?_
                          exact end1 (Try.results7) (by kernel_rfl) (by kernel_rfl) HA_15 H _ (.inr rfl)

end Go.Proofs.Ytlcklnbgknhhkaa
