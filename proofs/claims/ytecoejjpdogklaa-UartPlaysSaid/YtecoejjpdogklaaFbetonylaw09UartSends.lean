/- The shallow reading of one function, and that the function does it. Written by a program. -/
import Derived.Test.YtecoejjpdogklaaFnC
set_option linter.unusedVariables false
namespace Go.Proofs.Ytecoejjpdogklaa
open Go Go.HW

def betonylaw09_UartSends_l1 (R : Value → Heap → Prop) (x0 x1 x2 x21 : Value) (next : Value → Value → Heap → Prop) (x8 x9 : Value) (h_4 : Heap) : Prop :=
  sLt x9 (.int .i64 130) fun x41 =>
  sIf x41 (sConv .i64 x2 fun x47 =>
  sRem .i64 x47 (.int .i64 9) fun x48 =>
  sAdd .i64 (.int .i64 1) x48 fun x49 =>
  uart_Line_Sent_c x21 x49 h_4 fun x50 h_5 => 
  sApp h_5 x8 x50 #[.int .u8 0] 5 1 fun x51 h_6 => 
  sAdd .i64 x9 (.int .i64 1) fun x43 =>
  next x51 x43 h_6) (uart_Line_Waits_c x21 h_4 fun x54 h_7 => 
  sTup x54 0 fun x55 =>
  sTup x54 1 fun x56 =>
  sSlit h_7 #[] [] 5 0 fun x58 h_8 => 
  sApp h_8 x58 x0 #[.int .u8 0] 5 1 fun x60 h_9 => 
  sApp h_9 x60 x1 #[.int .u8 0] 5 1 fun x62 h_10 => 
  betonyref01_Same_c x8 x62 h_10 fun x63 h_11 => 
  sAnd x63 (fun k_1 =>
  sEq x56 (.int .i64 0) fun x66 =>
  k_1 x66) fun x67 =>
  sAndH x67 h_11 (fun k =>
  betonylaw09_awake_c  h_11 fun x69 h_13 => 
  k x69 h_13) fun x70 h_12 =>
  R x70 h_12)
def betonylaw09_UartSends_S (x0 x1 x2 : Value) (h : Heap) (R : Value → Heap → Prop) : Prop :=
  sLen x0 fun x13 =>
  sGt x13 (.int .i64 60) fun x14 =>
  sOr x14 (fun k_4 =>
  sLen x1 fun x17 =>
  sGt x17 (.int .i64 60) fun x18 =>
  k_4 x18) fun x19 =>
  sIf x19 (betonylaw09_awake_c  h fun x20 h => 
  R x20 h) (uart_New_c (.int .i64 200) h fun x21 h_1 => 
  sEqlNil x21 fun x23 =>
  sOrH x23 h_1 (fun k_3 =>
  uart_Line_Send_c x21 x0 h_1 fun x27 h_15 => 
  sLen x0 fun x29 =>
  sNe x27 x29 fun x30 =>
  k_3 x30 h_15) fun x31 h_2 =>
  sOrH x31 h_2 (fun k_2 =>
  uart_Line_Send_c x21 x1 h_2 fun x35 h_14 => 
  sLen x1 fun x37 =>
  sNe x35 x37 fun x38 =>
  k_2 x38 h_14) fun x39 h_3 =>
  sIf x39 (R (.bool false) h_3) (sLoop (S := Value × Value) (fun nxt s h => betonylaw09_UartSends_l1 R x0 x1 x2 x21 (fun x8' x9' h => nxt (x8', x9') h) s.1 s.2 h) ((.slice none 0 0), (.int .i64 0)) h_3))
set_option maxRecDepth 100000 in
theorem betonylaw09_UartSends_runs {x0 x1 x2 : Value} {h : Heap} {R : Value → Heap → Prop} (H : betonylaw09_UartSends_S x0 x1 x2 h R) : betonylaw09_UartSends_c x0 x1 x2 h R := by
  unfold betonylaw09_UartSends_S at H
  refine runs_of (b := ⟨([x0, x1, x2, undef, undef, undef, undef, undef, undef, undef, undef, undef, undef, undef, undef, undef, undef, undef, undef, undef, undef, undef, undef, undef, undef, undef, undef, undef, undef, undef, undef, undef, undef, undef, undef, undef, undef, undef, undef, undef, undef, undef, undef, undef, undef, undef, undef, undef, undef, undef] ++ [undef, undef, undef, undef, undef, undef, undef, undef, undef, undef, undef, undef, undef, undef, undef, undef, undef, undef, undef, undef, undef]).toArray, []⟩) Try.call10 Try.func10 rfl (by kernel_rfl) (fun w0 HA => ?_)
  refine wp_seq ?_
  refine lwp_list ?_
  refine ls_assign (x := (.bool false)) (by kernel_rfl) (by kernel_rfl) ?_
  refine ls_nil ?_
  refine then_normal ?_
  refine fr_eq (b := ⟨([x0, x1, x2, undef, undef, undef, (.bool false), undef, undef, undef, undef, undef, undef, undef, undef, undef, undef, undef, undef, undef, undef, undef, undef, undef, undef, undef, undef, undef, undef, undef, undef, undef, undef, undef, undef, undef, undef, undef, undef, undef, undef, undef, undef, undef, undef, undef, undef, undef, undef, undef] ++ [undef, undef, undef, undef, undef, undef, undef, undef, undef, undef, undef, undef, undef, undef, undef, undef, undef, undef, undef, undef, undef]).toArray, []⟩) (by kernel_rfl) ?_
  refine wp_seq ?_
  refine wp_seq ?_
  refine lwp_list ?_
  refine ls_move (x := x0) (by kernel_rfl) (by kernel_rfl) ?_
  refine ls_p (d := some 13) (by kernel_rfl) (by kernel_rfl) (p_len Try.underlying42 (by kernel_rfl) H) (fun x13 H => ?_)
  refine ls_p (d := some 14) (by kernel_rfl) (by kernel_rfl) (p_sGt (by kernel_rfl) (by kernel_rfl) H) (fun x14 H => ?_)
  refine ls_move (x := x14) (by kernel_rfl) (by kernel_rfl) ?_
  refine ls_or [(), (), (), ()] (fun K a w => ∃ (D : Nat → Value) (x19 : Value), a = ⟨([x0, x1, x2, undef, undef, undef, (.bool false), undef, undef, undef, undef, undef, x0, x13, x14, x14, (D 0), (D 1), (D 2), x19, undef, undef, undef, undef, undef, undef, undef, undef, undef, undef, undef, undef, undef, undef, undef, undef, undef, undef, undef, undef, undef, undef, undef, undef, undef, undef, undef, undef, undef, undef] ++ [undef, undef, undef, undef, undef, undef, undef, undef, undef, undef, undef, undef, undef, undef, undef, undef, undef, undef, undef, undef, undef]).toArray, []⟩ ∧ At w0 w h ∧ K x19) H (fun hb_4 H => ?_) (fun hb_4 H => ?_) ?_
  · refine ls_move (x := x1) (by rw [hb_4]; kernel_rfl) (by kernel_rfl) ?_
    refine ls_p (d := some 17) (by kernel_rfl) (by rw [hb_4]; kernel_rfl) (p_len Try.underlying42 (by kernel_rfl) H) (fun x17 H => ?_)
    refine ls_fr (b := ⟨([x0, x1, x2, undef, undef, undef, (.bool false), undef, undef, undef, undef, undef, x0, x13, x14, x14, x1, x17, undef, undef, undef, undef, undef, undef, undef, undef, undef, undef, undef, undef, undef, undef, undef, undef, undef, undef, undef, undef, undef, undef, undef, undef, undef, undef, undef, undef, undef, undef, undef, undef] ++ [undef, undef, undef, undef, undef, undef, undef, undef, undef, undef, undef, undef, undef, undef, undef, undef, undef, undef, undef, undef, undef]).toArray, []⟩) (by kernel_rfl) ?_
    refine ls_p (d := some 18) (by kernel_rfl) (by rw [hb_4]; kernel_rfl) (p_sGt (by kernel_rfl) (by kernel_rfl) H) (fun x18 H => ?_)
    refine ls_pick_f (y := x18) (by kernel_rfl) (by rw [hb_4]; kernel_rfl) (by kernel_rfl) ?_
    refine ls_nil ?_
    refine then_normal ?_
    exact ⟨(fun i => ([x1, x17, x18]).getD i undef), x18, by kernel_rfl, HA, H⟩
  · refine ls_skip (d := some 16) (by kernel_rfl) (by rw [hb_4]; kernel_rfl) ?_
    refine ls_skip (d := some 17) (by kernel_rfl) (by rw [hb_4]; kernel_rfl) ?_
    refine ls_fr (b := ⟨([x0, x1, x2, undef, undef, undef, (.bool false), undef, undef, undef, undef, undef, x0, x13, x14, x14, undef, undef, undef, undef, undef, undef, undef, undef, undef, undef, undef, undef, undef, undef, undef, undef, undef, undef, undef, undef, undef, undef, undef, undef, undef, undef, undef, undef, undef, undef, undef, undef, undef, undef] ++ [undef, undef, undef, undef, undef, undef, undef, undef, undef, undef, undef, undef, undef, undef, undef, undef, undef, undef, undef, undef, undef]).toArray, []⟩) (by kernel_rfl) ?_
    refine ls_skip (d := some 18) (by kernel_rfl) (by rw [hb_4]; kernel_rfl) ?_
    refine ls_pick_t (x := (.bool true)) (by kernel_rfl) (by rw [hb_4]; kernel_rfl) (by kernel_rfl) ?_
    refine ls_nil ?_
    refine then_normal ?_
    exact ⟨(fun i => ([undef, undef, undef]).getD i undef), (.bool true), by kernel_rfl, HA, H⟩
  · rintro _ w ⟨D, x19, rfl, HA, H⟩
    refine ls_nil ?_
    refine then_normal ?_
    refine fr_eq (b := ⟨([x0, x1, x2, undef, undef, undef, (.bool false), undef, undef, undef, undef, undef, x0, x13, x14, x14, (D 0), (D 1), (D 2), x19, undef, undef, undef, undef, undef, undef, undef, undef, undef, undef, undef, undef, undef, undef, undef, undef, undef, undef, undef, undef, undef, undef, undef, undef, undef, undef, undef, undef, undef, undef] ++ [undef, undef, undef, undef, undef, undef, undef, undef, undef, undef, undef, undef, undef, undef, undef, undef, undef, undef, undef, undef, undef]).toArray, []⟩) (by kernel_rfl) ?_
    refine wp_if rfl H (fun H => ?_) (fun H => ?_)
    · refine wp_seq ?_
      refine lwp_list ?_
      refine ls_d (d := some 20) (by kernel_rfl) (by kernel_rfl) HA (d_call (by kernel_rfl) (by kernel_rfl) H) (fun x20 h w_1 H HA_1 => ?_)
      refine ls_assign (x := x20) (by kernel_rfl) (by kernel_rfl) ?_
      refine ls_nil ?_
      refine then_normal ?_
      refine fr_eq (b := ⟨([x0, x1, x2, undef, undef, undef, x20, undef, undef, undef, undef, undef, x0, x13, x14, x14, (D 0), (D 1), (D 2), x19, x20, undef, undef, undef, undef, undef, undef, undef, undef, undef, undef, undef, undef, undef, undef, undef, undef, undef, undef, undef, undef, undef, undef, undef, undef, undef, undef, undef, undef, undef] ++ [undef, undef, undef, undef, undef, undef, undef, undef, undef, undef, undef, undef, undef, undef, undef, undef, undef, undef, undef, undef, undef]).toArray, []⟩) (by kernel_rfl) ?_
      refine wp_ret ?_
      refine then_ret ?_
      exact end1 (Try.results10) (by kernel_rfl) (by kernel_rfl) HA_1 H _ (.inr rfl)
    · refine wp_skip ?_
      refine then_normal ?_
      refine fr_eq (b := ⟨([x0, x1, x2, undef, undef, undef, (.bool false), undef, undef, undef, undef, undef, x0, x13, x14, x14, (D 0), (D 1), (D 2), x19, undef, undef, undef, undef, undef, undef, undef, undef, undef, undef, undef, undef, undef, undef, undef, undef, undef, undef, undef, undef, undef, undef, undef, undef, undef, undef, undef, undef, undef, undef] ++ [undef, undef, undef, undef, undef, undef, undef, undef, undef, undef, undef, undef, undef, undef, undef, undef, undef, undef, undef, undef, undef]).toArray, []⟩) (by kernel_rfl) ?_
      refine wp_seq ?_
      refine lwp_list ?_
      refine ls_d (d := some 21) (by kernel_rfl) (by kernel_rfl) HA (d_call (by kernel_rfl) (by kernel_rfl) H) (fun x21 h_1 w_2 H HA_2 => ?_)
      refine ls_assign (x := x21) (by kernel_rfl) (by kernel_rfl) ?_
      refine ls_nil ?_
      refine then_normal ?_
      refine fr_eq (b := ⟨([x0, x1, x2, undef, undef, undef, (.bool false), x21, undef, undef, undef, undef, x0, x13, x14, x14, (D 0), (D 1), (D 2), x19, undef, x21, undef, undef, undef, undef, undef, undef, undef, undef, undef, undef, undef, undef, undef, undef, undef, undef, undef, undef, undef, undef, undef, undef, undef, undef, undef, undef, undef, undef] ++ [undef, undef, undef, undef, undef, undef, undef, undef, undef, undef, undef, undef, undef, undef, undef, undef, undef, undef, undef, undef, undef]).toArray, []⟩) (by kernel_rfl) ?_
      refine wp_seq ?_
      refine wp_seq ?_
      refine lwp_list ?_
      refine ls_move (x := x21) (by kernel_rfl) (by kernel_rfl) ?_
      refine ls_p (d := some 23) (by kernel_rfl) (by kernel_rfl) (p_eqlNil Try.underlying44 (by kernel_rfl) (by kernel_rfl) H) (fun x23 H => ?_)
      refine ls_move (x := x23) (by kernel_rfl) (by kernel_rfl) ?_
      refine ls_orh [(), (), (), (), (), (), ()] (fun K a w => ∃ (D_1 : Nat → Value) (x31 : Value) (h_2 : Heap), a = ⟨([x0, x1, x2, undef, undef, undef, (.bool false), x21, undef, undef, undef, undef, x0, x13, x14, x14, (D 0), (D 1), (D 2), x19, undef, x21, x21, x23, x23, (D_1 0), (D_1 1), (D_1 2), (D_1 3), (D_1 4), (D_1 5), x31, undef, undef, undef, undef, undef, undef, undef, undef, undef, undef, undef, undef, undef, undef, undef, undef, undef, undef] ++ [undef, undef, undef, undef, undef, undef, undef, undef, undef, undef, undef, undef, undef, undef, undef, undef, undef, undef, undef, undef, undef]).toArray, []⟩ ∧ At w0 w h_2 ∧ K x31 h_2) H (fun hb_3 H => ?_) (fun hb_3 H => ?_) ?_
      · refine ls_move (x := x21) (by rw [hb_3]; kernel_rfl) (by kernel_rfl) ?_
        refine ls_move (x := x0) (by rw [hb_3]; kernel_rfl) (by kernel_rfl) ?_
        refine ls_d (d := some 27) (by kernel_rfl) (by rw [hb_3]; kernel_rfl) HA_2 (d_call (by kernel_rfl) (by kernel_rfl) H) (fun x27 h_15 w_17 H HA_17 => ?_)
        refine ls_fr (b := ⟨([x0, x1, x2, undef, undef, undef, (.bool false), x21, undef, undef, undef, undef, x0, x13, x14, x14, (D 0), (D 1), (D 2), x19, undef, x21, x21, x23, x23, x21, x0, x27, undef, undef, undef, undef, undef, undef, undef, undef, undef, undef, undef, undef, undef, undef, undef, undef, undef, undef, undef, undef, undef, undef] ++ [undef, undef, undef, undef, undef, undef, undef, undef, undef, undef, undef, undef, undef, undef, undef, undef, undef, undef, undef, undef, undef]).toArray, []⟩) (by kernel_rfl) ?_
        refine ls_move (x := x0) (by rw [hb_3]; kernel_rfl) (by kernel_rfl) ?_
        refine ls_p (d := some 29) (by kernel_rfl) (by rw [hb_3]; kernel_rfl) (p_len Try.underlying42 (by kernel_rfl) H) (fun x29 H => ?_)
        refine ls_p (d := some 30) (by kernel_rfl) (by rw [hb_3]; kernel_rfl) (p_sNe (by kernel_rfl) (by kernel_rfl) H) (fun x30 H => ?_)
        refine ls_pick_f (y := x30) (by kernel_rfl) (by rw [hb_3]; kernel_rfl) (by kernel_rfl) ?_
        refine ls_nil ?_
        refine then_normal ?_
        exact ⟨(fun i => ([x21, x0, x27, x0, x29, x30]).getD i undef), x30, h_15, by kernel_rfl, HA_17, H⟩
      · refine ls_skip (d := some 25) (by kernel_rfl) (by rw [hb_3]; kernel_rfl) ?_
        refine ls_skip (d := some 26) (by kernel_rfl) (by rw [hb_3]; kernel_rfl) ?_
        refine ls_skip (d := some 27) (by kernel_rfl) (by rw [hb_3]; kernel_rfl) ?_
        refine ls_fr (b := ⟨([x0, x1, x2, undef, undef, undef, (.bool false), x21, undef, undef, undef, undef, x0, x13, x14, x14, (D 0), (D 1), (D 2), x19, undef, x21, x21, x23, x23, undef, undef, undef, undef, undef, undef, undef, undef, undef, undef, undef, undef, undef, undef, undef, undef, undef, undef, undef, undef, undef, undef, undef, undef, undef] ++ [undef, undef, undef, undef, undef, undef, undef, undef, undef, undef, undef, undef, undef, undef, undef, undef, undef, undef, undef, undef, undef]).toArray, []⟩) (by kernel_rfl) ?_
        refine ls_skip (d := some 28) (by kernel_rfl) (by rw [hb_3]; kernel_rfl) ?_
        refine ls_skip (d := some 29) (by kernel_rfl) (by rw [hb_3]; kernel_rfl) ?_
        refine ls_skip (d := some 30) (by kernel_rfl) (by rw [hb_3]; kernel_rfl) ?_
        refine ls_pick_t (x := (.bool true)) (by kernel_rfl) (by rw [hb_3]; kernel_rfl) (by kernel_rfl) ?_
        refine ls_nil ?_
        refine then_normal ?_
        exact ⟨(fun i => ([undef, undef, undef, undef, undef, undef]).getD i undef), (.bool true), h_1, by kernel_rfl, HA_2, H⟩
      · rintro _ w_3 ⟨D_1, x31, h_2, rfl, HA_3, H⟩
        refine ls_move (x := x31) (by kernel_rfl) (by kernel_rfl) ?_
        refine ls_orh [(), (), (), (), (), (), ()] (fun K a w => ∃ (D_2 : Nat → Value) (x39 : Value) (h_3 : Heap), a = ⟨([x0, x1, x2, undef, undef, undef, (.bool false), x21, undef, undef, undef, undef, x0, x13, x14, x14, (D 0), (D 1), (D 2), x19, undef, x21, x21, x23, x23, (D_1 0), (D_1 1), (D_1 2), (D_1 3), (D_1 4), (D_1 5), x31, x31, (D_2 0), (D_2 1), (D_2 2), (D_2 3), (D_2 4), (D_2 5), x39, undef, undef, undef, undef, undef, undef, undef, undef, undef, undef] ++ [undef, undef, undef, undef, undef, undef, undef, undef, undef, undef, undef, undef, undef, undef, undef, undef, undef, undef, undef, undef, undef]).toArray, []⟩ ∧ At w0 w h_3 ∧ K x39 h_3) H (fun hb_2 H => ?_) (fun hb_2 H => ?_) ?_
        · refine ls_move (x := x21) (by rw [hb_2]; kernel_rfl) (by kernel_rfl) ?_
          refine ls_move (x := x1) (by rw [hb_2]; kernel_rfl) (by kernel_rfl) ?_
          refine ls_d (d := some 35) (by kernel_rfl) (by rw [hb_2]; kernel_rfl) HA_3 (d_call (by kernel_rfl) (by kernel_rfl) H) (fun x35 h_14 w_16 H HA_16 => ?_)
          refine ls_move (x := x1) (by rw [hb_2]; kernel_rfl) (by kernel_rfl) ?_
          refine ls_p (d := some 37) (by kernel_rfl) (by rw [hb_2]; kernel_rfl) (p_len Try.underlying42 (by kernel_rfl) H) (fun x37 H => ?_)
          refine ls_fr (b := ⟨([x0, x1, x2, undef, undef, undef, (.bool false), x21, undef, undef, undef, undef, x0, x13, x14, x14, (D 0), (D 1), (D 2), x19, undef, x21, x21, x23, x23, (D_1 0), (D_1 1), (D_1 2), (D_1 3), (D_1 4), (D_1 5), x31, x31, x21, x1, x35, x1, x37, undef, undef, undef, undef, undef, undef, undef, undef, undef, undef, undef, undef] ++ [undef, undef, undef, undef, undef, undef, undef, undef, undef, undef, undef, undef, undef, undef, undef, undef, undef, undef, undef, undef, undef]).toArray, []⟩) (by kernel_rfl) ?_
          refine ls_p (d := some 38) (by kernel_rfl) (by rw [hb_2]; kernel_rfl) (p_sNe (by kernel_rfl) (by kernel_rfl) H) (fun x38 H => ?_)
          refine ls_pick_f (y := x38) (by kernel_rfl) (by rw [hb_2]; kernel_rfl) (by kernel_rfl) ?_
          refine ls_nil ?_
          refine then_normal ?_
          exact ⟨(fun i => ([x21, x1, x35, x1, x37, x38]).getD i undef), x38, h_14, by kernel_rfl, HA_16, H⟩
        · refine ls_skip (d := some 33) (by kernel_rfl) (by rw [hb_2]; kernel_rfl) ?_
          refine ls_skip (d := some 34) (by kernel_rfl) (by rw [hb_2]; kernel_rfl) ?_
          refine ls_skip (d := some 35) (by kernel_rfl) (by rw [hb_2]; kernel_rfl) ?_
          refine ls_skip (d := some 36) (by kernel_rfl) (by rw [hb_2]; kernel_rfl) ?_
          refine ls_skip (d := some 37) (by kernel_rfl) (by rw [hb_2]; kernel_rfl) ?_
          refine ls_fr (b := ⟨([x0, x1, x2, undef, undef, undef, (.bool false), x21, undef, undef, undef, undef, x0, x13, x14, x14, (D 0), (D 1), (D 2), x19, undef, x21, x21, x23, x23, (D_1 0), (D_1 1), (D_1 2), (D_1 3), (D_1 4), (D_1 5), x31, x31, undef, undef, undef, undef, undef, undef, undef, undef, undef, undef, undef, undef, undef, undef, undef, undef, undef] ++ [undef, undef, undef, undef, undef, undef, undef, undef, undef, undef, undef, undef, undef, undef, undef, undef, undef, undef, undef, undef, undef]).toArray, []⟩) (by kernel_rfl) ?_
          refine ls_skip (d := some 38) (by kernel_rfl) (by rw [hb_2]; kernel_rfl) ?_
          refine ls_pick_t (x := (.bool true)) (by kernel_rfl) (by rw [hb_2]; kernel_rfl) (by kernel_rfl) ?_
          refine ls_nil ?_
          refine then_normal ?_
          exact ⟨(fun i => ([undef, undef, undef, undef, undef, undef]).getD i undef), (.bool true), h_2, by kernel_rfl, HA_3, H⟩
        · rintro _ w_4 ⟨D_2, x39, h_3, rfl, HA_4, H⟩
          refine ls_nil ?_
          refine then_normal ?_
          refine fr_eq (b := ⟨([x0, x1, x2, undef, undef, undef, (.bool false), x21, undef, undef, undef, undef, x0, x13, x14, x14, (D 0), (D 1), (D 2), x19, undef, x21, x21, x23, x23, (D_1 0), (D_1 1), (D_1 2), (D_1 3), (D_1 4), (D_1 5), x31, x31, (D_2 0), (D_2 1), (D_2 2), (D_2 3), (D_2 4), (D_2 5), x39, undef, undef, undef, undef, undef, undef, undef, undef, undef, undef] ++ [undef, undef, undef, undef, undef, undef, undef, undef, undef, undef, undef, undef, undef, undef, undef, undef, undef, undef, undef, undef, undef]).toArray, []⟩) (by kernel_rfl) ?_
          refine wp_if rfl H (fun H => ?_) (fun H => ?_)
          · refine wp_seq ?_
            refine lwp_list ?_
            refine ls_assign (x := (.bool false)) (by kernel_rfl) (by kernel_rfl) ?_
            refine ls_nil ?_
            refine then_normal ?_
            refine fr_eq (b := ⟨([x0, x1, x2, undef, undef, undef, (.bool false), x21, undef, undef, undef, undef, x0, x13, x14, x14, (D 0), (D 1), (D 2), x19, undef, x21, x21, x23, x23, (D_1 0), (D_1 1), (D_1 2), (D_1 3), (D_1 4), (D_1 5), x31, x31, (D_2 0), (D_2 1), (D_2 2), (D_2 3), (D_2 4), (D_2 5), x39, undef, undef, undef, undef, undef, undef, undef, undef, undef, undef] ++ [undef, undef, undef, undef, undef, undef, undef, undef, undef, undef, undef, undef, undef, undef, undef, undef, undef, undef, undef, undef, undef]).toArray, []⟩) (by kernel_rfl) ?_
            refine wp_ret ?_
            refine then_ret ?_
            exact end1 (Try.results10) (by kernel_rfl) (by kernel_rfl) HA_4 H _ (.inr rfl)
          · refine wp_skip ?_
            refine then_normal ?_
            refine fr_eq (b := ⟨([x0, x1, x2, undef, undef, undef, (.bool false), x21, undef, undef, undef, undef, x0, x13, x14, x14, (D 0), (D 1), (D 2), x19, undef, x21, x21, x23, x23, (D_1 0), (D_1 1), (D_1 2), (D_1 3), (D_1 4), (D_1 5), x31, x31, (D_2 0), (D_2 1), (D_2 2), (D_2 3), (D_2 4), (D_2 5), x39, undef, undef, undef, undef, undef, undef, undef, undef, undef, undef] ++ [undef, undef, undef, undef, undef, undef, undef, undef, undef, undef, undef, undef, undef, undef, undef, undef, undef, undef, undef, undef, undef]).toArray, []⟩) (by kernel_rfl) ?_
            refine wp_seq ?_
            refine lwp_list ?_
            refine ls_assign (x := (.slice none 0 0)) (by kernel_rfl) (by kernel_rfl) ?_
            refine ls_nil ?_
            refine then_normal ?_
            refine fr_eq (b := ⟨([x0, x1, x2, undef, undef, undef, (.bool false), x21, (.slice none 0 0), undef, undef, undef, x0, x13, x14, x14, (D 0), (D 1), (D 2), x19, undef, x21, x21, x23, x23, (D_1 0), (D_1 1), (D_1 2), (D_1 3), (D_1 4), (D_1 5), x31, x31, (D_2 0), (D_2 1), (D_2 2), (D_2 3), (D_2 4), (D_2 5), x39, undef, undef, undef, undef, undef, undef, undef, undef, undef, undef] ++ [undef, undef, undef, undef, undef, undef, undef, undef, undef, undef, undef, undef, undef, undef, undef, undef, undef, undef, undef, undef, undef]).toArray, []⟩) (by kernel_rfl) ?_
            refine wp_seq ?_
            refine wp_seq ?_
            refine lwp_list ?_
            refine ls_assign (x := (.int .i64 0)) (by kernel_rfl) (by kernel_rfl) ?_
            refine ls_nil ?_
            refine then_normal ?_
            refine fr_eq (b := ⟨([x0, x1, x2, undef, undef, undef, (.bool false), x21, (.slice none 0 0), (.int .i64 0), undef, undef, x0, x13, x14, x14, (D 0), (D 1), (D 2), x19, undef, x21, x21, x23, x23, (D_1 0), (D_1 1), (D_1 2), (D_1 3), (D_1 4), (D_1 5), x31, x31, (D_2 0), (D_2 1), (D_2 2), (D_2 3), (D_2 4), (D_2 5), x39, undef, undef, undef, undef, undef, undef, undef, undef, undef, undef] ++ [undef, undef, undef, undef, undef, undef, undef, undef, undef, undef, undef, undef, undef, undef, undef, undef, undef, undef, undef, undef, undef]).toArray, []⟩) (by kernel_rfl) ?_
            refine wp_block ?_
            obtain ⟨I, m, H0, HB⟩ := H
            refine wp_loop (fun a w => ∃ (D_3 : Nat → Value) (x8 x9 : Value) (h_4 : Heap), a = ⟨([x0, x1, x2, undef, undef, undef, (.bool false), x21, x8, x9, undef, undef, x0, x13, x14, x14, (D 0), (D 1), (D 2), x19, undef, x21, x21, x23, x23, (D_1 0), (D_1 1), (D_1 2), (D_1 3), (D_1 4), (D_1 5), x31, x31, (D_2 0), (D_2 1), (D_2 2), (D_2 3), (D_2 4), (D_2 5), x39, (D_3 0), (D_3 1), (D_3 2), (D_3 3), (D_3 4), (D_3 5), (D_3 6), (D_3 7), (D_3 8), (D_3 9)] ++ [(D_3 10), (D_3 11), undef, undef, undef, undef, undef, undef, undef, undef, undef, undef, undef, undef, undef, undef, undef, undef, undef, undef, undef]).toArray, []⟩ ∧ At w0 w h_4 ∧ I (x8, x9) h_4) (fun a w => m ((a.tmps.getD 8 undef), (a.tmps.getD 9 undef)) w.heap) ?_ ?_
            · exact ⟨(fun i => ([undef, undef, undef, undef, undef, undef, undef, undef, undef, undef, undef, undef]).getD i undef), (.slice none 0 0), (.int .i64 0), h_3, by kernel_rfl, HA_4, H0⟩
            · rintro _ w_5 ⟨D_3, x8, x9, h_4, rfl, HA_5, HI⟩
              have H : betonylaw09_UartSends_l1 R x0 x1 x2 x21 (fun x8' x9' h' => I (x8', x9') h' ∧ m (x8', x9') h' < m (x8, x9) h_4) x8 x9 h_4 := HB (x8, x9) h_4 HI
              clear HB H0 HI
              unfold betonylaw09_UartSends_l1 at H
              refine wp_seq ?_
              refine wp_seq ?_
              refine lwp_list ?_
              refine ls_move (x := x9) (by kernel_rfl) (by kernel_rfl) ?_
              refine ls_p (d := some 41) (by kernel_rfl) (by kernel_rfl) (p_sLt (by kernel_rfl) (by kernel_rfl) H) (fun x41 H => ?_)
              refine ls_nil ?_
              refine then_normal ?_
              refine fr_eq (b := ⟨([x0, x1, x2, undef, undef, undef, (.bool false), x21, x8, x9, undef, undef, x0, x13, x14, x14, (D 0), (D 1), (D 2), x19, undef, x21, x21, x23, x23, (D_1 0), (D_1 1), (D_1 2), (D_1 3), (D_1 4), (D_1 5), x31, x31, (D_2 0), (D_2 1), (D_2 2), (D_2 3), (D_2 4), (D_2 5), x39, x9, x41, (D_3 2), (D_3 3), (D_3 4), (D_3 5), (D_3 6), (D_3 7), (D_3 8), (D_3 9)] ++ [(D_3 10), (D_3 11), undef, undef, undef, undef, undef, undef, undef, undef, undef, undef, undef, undef, undef, undef, undef, undef, undef, undef, undef]).toArray, []⟩) (by kernel_rfl) ?_
              refine wp_if rfl H (fun H => ?_) (fun H => ?_)
              · refine wp_skip ?_
                refine then_normal ?_
                refine fr_eq (b := ⟨([x0, x1, x2, undef, undef, undef, (.bool false), x21, x8, x9, undef, undef, x0, x13, x14, x14, (D 0), (D 1), (D 2), x19, undef, x21, x21, x23, x23, (D_1 0), (D_1 1), (D_1 2), (D_1 3), (D_1 4), (D_1 5), x31, x31, (D_2 0), (D_2 1), (D_2 2), (D_2 3), (D_2 4), (D_2 5), x39, x9, x41, (D_3 2), (D_3 3), (D_3 4), (D_3 5), (D_3 6), (D_3 7), (D_3 8), (D_3 9)] ++ [(D_3 10), (D_3 11), undef, undef, undef, undef, undef, undef, undef, undef, undef, undef, undef, undef, undef, undef, undef, undef, undef, undef, undef]).toArray, []⟩) (by kernel_rfl) ?_
                refine wp_seq ?_
                refine wp_block ?_
                refine lwp_list ?_
                refine ls_move (x := x8) (by kernel_rfl) (by kernel_rfl) ?_
                refine ls_move (x := x21) (by kernel_rfl) (by kernel_rfl) ?_
                refine ls_move (x := x2) (by kernel_rfl) (by kernel_rfl) ?_
                refine ls_p (d := some 47) (by kernel_rfl) (by kernel_rfl) (p_conv Try.underlying5 Try.underlying3 (by kernel_rfl) H) (fun x47 H => ?_)
                refine ls_p (d := some 48) (by kernel_rfl) (by kernel_rfl) (p_rem (by kernel_rfl) (by kernel_rfl) H) (fun x48 H => ?_)
                refine ls_p (d := some 49) (by kernel_rfl) (by kernel_rfl) (p_add (by kernel_rfl) (by kernel_rfl) H) (fun x49 H => ?_)
                refine ls_fr (b := ⟨([x0, x1, x2, undef, undef, undef, (.bool false), x21, x8, x9, undef, undef, x0, x13, x14, x14, (D 0), (D 1), (D 2), x19, undef, x21, x21, x23, x23, (D_1 0), (D_1 1), (D_1 2), (D_1 3), (D_1 4), (D_1 5), x31, x31, (D_2 0), (D_2 1), (D_2 2), (D_2 3), (D_2 4), (D_2 5), x39, x9, x41, (D_3 2), (D_3 3), x8, x21, x2, x47, x48, x49] ++ [(D_3 10), (D_3 11), undef, undef, undef, undef, undef, undef, undef, undef, undef, undef, undef, undef, undef, undef, undef, undef, undef, undef, undef]).toArray, []⟩) (by kernel_rfl) ?_
                refine ls_d (d := some 50) (by kernel_rfl) (by kernel_rfl) HA_5 (d_call (by kernel_rfl) (by kernel_rfl) H) (fun x50 h_5 w_6 H HA_6 => ?_)
                refine ls_d (d := some 51) (by kernel_rfl) (by kernel_rfl) HA_6 (d_app (z := #[.int .u8 0]) Try.underlying42 Try.underlying42 (.inl ⟨_, rfl⟩) Try.typeInfo5 (by kernel_rfl) Try.sizeOf5 Try.zeroValue5 (by kernel_rfl) (by kernel_rfl) (by kernel_rfl) H) (fun x51 h_6 w_7 H HA_7 => ?_)
                refine ls_assign (x := x51) (by kernel_rfl) (by kernel_rfl) ?_
                refine ls_nil ?_
                refine block_normal ?_
                refine then_normal ?_
                refine fr_eq (b := ⟨([x0, x1, x2, undef, undef, undef, (.bool false), x21, x51, x9, undef, undef, x0, x13, x14, x14, (D 0), (D 1), (D 2), x19, undef, x21, x21, x23, x23, (D_1 0), (D_1 1), (D_1 2), (D_1 3), (D_1 4), (D_1 5), x31, x31, (D_2 0), (D_2 1), (D_2 2), (D_2 3), (D_2 4), (D_2 5), x39, x9, x41, (D_3 2), (D_3 3), x8, x21, x2, x47, x48, x49] ++ [x50, x51, undef, undef, undef, undef, undef, undef, undef, undef, undef, undef, undef, undef, undef, undef, undef, undef, undef, undef, undef]).toArray, []⟩) (by kernel_rfl) ?_
                refine lwp_list ?_
                refine ls_move (x := x9) (by kernel_rfl) (by kernel_rfl) ?_
                refine ls_p (d := some 43) (by kernel_rfl) (by kernel_rfl) (p_add (by kernel_rfl) (by kernel_rfl) H) (fun x43 H => ?_)
                refine ls_assign (x := x43) (by kernel_rfl) (by kernel_rfl) ?_
                refine ls_nil ?_
                exact ⟨⟨(fun i => ([x9, x41, x9, x43, x8, x21, x2, x47, x48, x49, x50, x51]).getD i undef), x51, x43, h_6, by kernel_rfl, HA_7, H.1⟩, loop_lt HA_7.heap HA_5.heap (by kernel_rfl) (by kernel_rfl) H.2⟩
              · refine wp_exit ?_
                refine then_exit ?_
                refine then_exit ?_
                refine block_exit ?_
                refine then_normal ?_
                refine fr_eq (b := ⟨([x0, x1, x2, undef, undef, undef, (.bool false), x21, x8, x9, undef, undef, x0, x13, x14, x14, (D 0), (D 1), (D 2), x19, undef, x21, x21, x23, x23, (D_1 0), (D_1 1), (D_1 2), (D_1 3), (D_1 4), (D_1 5), x31, x31, (D_2 0), (D_2 1), (D_2 2), (D_2 3), (D_2 4), (D_2 5), x39, x9, x41, (D_3 2), (D_3 3), (D_3 4), (D_3 5), (D_3 6), (D_3 7), (D_3 8), (D_3 9)] ++ [(D_3 10), (D_3 11), undef, undef, undef, undef, undef, undef, undef, undef, undef, undef, undef, undef, undef, undef, undef, undef, undef, undef, undef]).toArray, []⟩) (by kernel_rfl) ?_
                refine wp_seq ?_
                refine lwp_list ?_
                refine ls_move (x := x21) (by kernel_rfl) (by kernel_rfl) ?_
                refine ls_d (d := some 54) (by kernel_rfl) (by kernel_rfl) HA_5 (d_call (by kernel_rfl) (by kernel_rfl) H) (fun x54 h_7 w_8 H HA_8 => ?_)
                refine ls_move (x := x54) (by kernel_rfl) (by kernel_rfl) ?_
                refine ls_p (d := some 55) (by kernel_rfl) (by kernel_rfl) (p_tup (by kernel_rfl) H) (fun x55 H => ?_)
                refine ls_p (d := some 56) (by kernel_rfl) (by kernel_rfl) (p_tup (by kernel_rfl) H) (fun x56 H => ?_)
                refine ls_assign (x := x55) (by kernel_rfl) (by kernel_rfl) ?_
                refine ls_fr (b := ⟨([x0, x1, x2, undef, undef, undef, (.bool false), x21, x8, x9, x55, undef, x0, x13, x14, x14, (D 0), (D 1), (D 2), x19, undef, x21, x21, x23, x23, (D_1 0), (D_1 1), (D_1 2), (D_1 3), (D_1 4), (D_1 5), x31, x31, (D_2 0), (D_2 1), (D_2 2), (D_2 3), (D_2 4), (D_2 5), x39, x9, x41, (D_3 2), (D_3 3), (D_3 4), (D_3 5), (D_3 6), (D_3 7), (D_3 8), (D_3 9)] ++ [(D_3 10), (D_3 11), x54, x21, x54, x55, x56, undef, undef, undef, undef, undef, undef, undef, undef, undef, undef, undef, undef, undef, undef]).toArray, []⟩) (by kernel_rfl) ?_
                refine ls_assign (x := x56) (by kernel_rfl) (by kernel_rfl) ?_
                refine ls_nil ?_
                refine then_normal ?_
                refine fr_eq (b := ⟨([x0, x1, x2, undef, undef, undef, (.bool false), x21, x8, x9, x55, x56, x0, x13, x14, x14, (D 0), (D 1), (D 2), x19, undef, x21, x21, x23, x23, (D_1 0), (D_1 1), (D_1 2), (D_1 3), (D_1 4), (D_1 5), x31, x31, (D_2 0), (D_2 1), (D_2 2), (D_2 3), (D_2 4), (D_2 5), x39, x9, x41, (D_3 2), (D_3 3), (D_3 4), (D_3 5), (D_3 6), (D_3 7), (D_3 8), (D_3 9)] ++ [(D_3 10), (D_3 11), x54, x21, x54, x55, x56, undef, undef, undef, undef, undef, undef, undef, undef, undef, undef, undef, undef, undef, undef]).toArray, []⟩) (by kernel_rfl) ?_
                refine wp_seq ?_
                refine lwp_list ?_
                refine ls_move (x := x8) (by kernel_rfl) (by kernel_rfl) ?_
                refine ls_d (d := some 58) (by kernel_rfl) (by kernel_rfl) HA_8 (d_slit (zc := #[]) Try.underlying42 Try.sizeOf5 (by decide) (.inl ⟨(by kernel_rfl), (by kernel_rfl)⟩) (by kernel_rfl) (by kernel_rfl) H) (fun x58 h_8 w_9 H HA_9 => ?_)
                refine ls_move (x := x0) (by kernel_rfl) (by kernel_rfl) ?_
                refine ls_d (d := some 60) (by kernel_rfl) (by kernel_rfl) HA_9 (d_app (z := #[.int .u8 0]) Try.underlying42 Try.underlying42 (.inl ⟨_, rfl⟩) Try.typeInfo5 (by kernel_rfl) Try.sizeOf5 Try.zeroValue5 (by kernel_rfl) (by kernel_rfl) (by kernel_rfl) H) (fun x60 h_9 w_10 H HA_10 => ?_)
                refine ls_move (x := x1) (by kernel_rfl) (by kernel_rfl) ?_
                refine ls_d (d := some 62) (by kernel_rfl) (by kernel_rfl) HA_10 (d_app (z := #[.int .u8 0]) Try.underlying42 Try.underlying42 (.inl ⟨_, rfl⟩) Try.typeInfo5 (by kernel_rfl) Try.sizeOf5 Try.zeroValue5 (by kernel_rfl) (by kernel_rfl) (by kernel_rfl) H) (fun x62 h_10 w_11 H HA_11 => ?_)
                refine ls_fr (b := ⟨([x0, x1, x2, undef, undef, undef, (.bool false), x21, x8, x9, x55, x56, x0, x13, x14, x14, (D 0), (D 1), (D 2), x19, undef, x21, x21, x23, x23, (D_1 0), (D_1 1), (D_1 2), (D_1 3), (D_1 4), (D_1 5), x31, x31, (D_2 0), (D_2 1), (D_2 2), (D_2 3), (D_2 4), (D_2 5), x39, x9, x41, (D_3 2), (D_3 3), (D_3 4), (D_3 5), (D_3 6), (D_3 7), (D_3 8), (D_3 9)] ++ [(D_3 10), (D_3 11), x54, x21, x54, x55, x56, x8, x58, x0, x60, x1, x62, undef, undef, undef, undef, undef, undef, undef, undef]).toArray, []⟩) (by kernel_rfl) ?_
                refine ls_d (d := some 63) (by kernel_rfl) (by kernel_rfl) HA_11 (d_call (by kernel_rfl) (by kernel_rfl) H) (fun x63 h_11 w_12 H HA_12 => ?_)
                refine ls_move (x := x63) (by kernel_rfl) (by kernel_rfl) ?_
                refine ls_and [(), (), ()] (fun K a w => ∃ (D_4 : Nat → Value) (x67 : Value), a = ⟨([x0, x1, x2, undef, undef, undef, (.bool false), x21, x8, x9, x55, x56, x0, x13, x14, x14, (D 0), (D 1), (D 2), x19, undef, x21, x21, x23, x23, (D_1 0), (D_1 1), (D_1 2), (D_1 3), (D_1 4), (D_1 5), x31, x31, (D_2 0), (D_2 1), (D_2 2), (D_2 3), (D_2 4), (D_2 5), x39, x9, x41, (D_3 2), (D_3 3), (D_3 4), (D_3 5), (D_3 6), (D_3 7), (D_3 8), (D_3 9)] ++ [(D_3 10), (D_3 11), x54, x21, x54, x55, x56, x8, x58, x0, x60, x1, x62, x63, x63, (D_4 0), (D_4 1), x67, undef, undef, undef]).toArray, []⟩ ∧ At w0 w h_11 ∧ K x67) H (fun hb_1 H => ?_) (fun hb_1 H => ?_) ?_
                · refine ls_move (x := x56) (by rw [hb_1]; kernel_rfl) (by kernel_rfl) ?_
                  refine ls_p (d := some 66) (by kernel_rfl) (by rw [hb_1]; kernel_rfl) (p_sEq (by kernel_rfl) (by kernel_rfl) H) (fun x66 H => ?_)
                  refine ls_pick_t (x := x66) (by kernel_rfl) (by rw [hb_1]; kernel_rfl) (by kernel_rfl) ?_
                  refine ls_nil ?_
                  refine then_normal ?_
                  exact ⟨(fun i => ([x56, x66]).getD i undef), x66, by kernel_rfl, HA_12, H⟩
                · refine ls_skip (d := some 65) (by kernel_rfl) (by rw [hb_1]; kernel_rfl) ?_
                  refine ls_skip (d := some 66) (by kernel_rfl) (by rw [hb_1]; kernel_rfl) ?_
                  refine ls_pick_f (y := (.bool false)) (by kernel_rfl) (by rw [hb_1]; kernel_rfl) (by kernel_rfl) ?_
                  refine ls_nil ?_
                  refine then_normal ?_
                  exact ⟨(fun i => ([undef, undef]).getD i undef), (.bool false), by kernel_rfl, HA_12, H⟩
                · rintro _ w_13 ⟨D_4, x67, rfl, HA_13, H⟩
                  refine ls_move (x := x67) (by kernel_rfl) (by kernel_rfl) ?_
                  refine ls_andh [(), ()] (fun K a w => ∃ (D_5 : Nat → Value) (x70 : Value) (h_12 : Heap), a = ⟨([x0, x1, x2, undef, undef, undef, (.bool false), x21, x8, x9, x55, x56, x0, x13, x14, x14, (D 0), (D 1), (D 2), x19, undef, x21, x21, x23, x23, (D_1 0), (D_1 1), (D_1 2), (D_1 3), (D_1 4), (D_1 5), x31, x31, (D_2 0), (D_2 1), (D_2 2), (D_2 3), (D_2 4), (D_2 5), x39, x9, x41, (D_3 2), (D_3 3), (D_3 4), (D_3 5), (D_3 6), (D_3 7), (D_3 8), (D_3 9)] ++ [(D_3 10), (D_3 11), x54, x21, x54, x55, x56, x8, x58, x0, x60, x1, x62, x63, x63, (D_4 0), (D_4 1), x67, x67, (D_5 0), x70]).toArray, []⟩ ∧ At w0 w h_12 ∧ K x70 h_12) H (fun hb H => ?_) (fun hb H => ?_) ?_
                  · refine ls_d (d := some 69) (by kernel_rfl) (by rw [hb]; kernel_rfl) HA_13 (d_call (by kernel_rfl) (by kernel_rfl) H) (fun x69 h_13 w_15 H HA_15 => ?_)
                    refine ls_pick_t (x := x69) (by kernel_rfl) (by rw [hb]; kernel_rfl) (by kernel_rfl) ?_
                    refine ls_nil ?_
                    refine then_normal ?_
                    exact ⟨(fun i => ([x69]).getD i undef), x69, h_13, by kernel_rfl, HA_15, H⟩
                  · refine ls_skip (d := some 69) (by kernel_rfl) (by rw [hb]; kernel_rfl) ?_
                    refine ls_pick_f (y := (.bool false)) (by kernel_rfl) (by rw [hb]; kernel_rfl) (by kernel_rfl) ?_
                    refine ls_nil ?_
                    refine then_normal ?_
                    exact ⟨(fun i => ([undef]).getD i undef), (.bool false), h_11, by kernel_rfl, HA_13, H⟩
                  · rintro _ w_14 ⟨D_5, x70, h_12, rfl, HA_14, H⟩
                    refine ls_assign (x := x70) (by kernel_rfl) (by kernel_rfl) ?_
                    refine ls_nil ?_
                    refine then_normal ?_
                    refine fr_eq (b := ⟨([x0, x1, x2, undef, undef, undef, x70, x21, x8, x9, x55, x56, x0, x13, x14, x14, (D 0), (D 1), (D 2), x19, undef, x21, x21, x23, x23, (D_1 0), (D_1 1), (D_1 2), (D_1 3), (D_1 4), (D_1 5), x31, x31, (D_2 0), (D_2 1), (D_2 2), (D_2 3), (D_2 4), (D_2 5), x39, x9, x41, (D_3 2), (D_3 3), (D_3 4), (D_3 5), (D_3 6), (D_3 7), (D_3 8), (D_3 9)] ++ [(D_3 10), (D_3 11), x54, x21, x54, x55, x56, x8, x58, x0, x60, x1, x62, x63, x63, (D_4 0), (D_4 1), x67, x67, (D_5 0), x70]).toArray, []⟩) (by kernel_rfl) ?_
                    refine wp_ret ?_
                    exact end1 (Try.results10) (by kernel_rfl) (by kernel_rfl) HA_14 H _ (.inr rfl)

end Go.Proofs.Ytecoejjpdogklaa
