/- The shallow reading of one function, and that the function does it. Written by a program. -/
import Derived.Test.YtecoejjpdogklaaFnC
set_option linter.unusedVariables false
namespace Go.Proofs.Ytecoejjpdogklaa
open Go Go.HW

def betonylaw09_UartOrder_j2 (next : Value → Value → Value → Value → Value → Heap → Prop) (x12 x8_1 x9_1 x10_1 x11_1 : Value) (h_3 : Heap) : Prop :=
  sAdd .i64 x12 (.int .i64 1) fun x36 =>
  next x8_1 x9_1 x10_1 x11_1 x36 h_3
def betonylaw09_UartOrder_j3 (R : Value → Heap → Prop) (next : Value → Value → Value → Value → Value → Heap → Prop) (x2 x28 x11 x12 x8_2 x9_2 x10_2 : Value) (h_5 : Heap) : Prop :=
  sLen x2 fun x56 =>
  sLt x12 x56 fun x57 =>
  sAnd x57 (fun k_3 =>
  sIxS x2 x12 1 fun x61 =>
  sLd h_5 x61 fun x62 =>
  k_3 x62) fun x63 =>
  sIf x63 (uart_Line_Read_c x28 h_5 fun x66 h_6 => 
  sTup x66 0 fun x67 =>
  sTup x66 1 fun x68 =>
  sNew h_6 #[.int .u8 0, .int .i64 0] 48 fun x13 h_7 => 
  sStN h_7 x13 x67 2 fun h_8 => 
  sLen x8_2 fun x72 =>
  sLt x11 x72 fun x73 =>
  sNeqB x68 x73 fun x74 =>
  sOr x74 (fun k =>
  sAnd x68 (fun k_1 =>
  sOff x13 0 fun x78 =>
  sLd h_8 x78 fun x79 =>
  sIxS x8_2 x11 1 fun x82 =>
  sLd h_8 x82 fun x83 =>
  sNe x79 x83 fun x84 =>
  sOr x84 (fun k_2 =>
  sOff x13 1 fun x86 =>
  sLd h_8 x86 fun x87 =>
  sEq x87 (.int .i64 1) fun x88 =>
  sIxS x9_2 x11 1 fun x91 =>
  sLd h_8 x91 fun x92 =>
  sNeqB x88 x92 fun x93 =>
  k_2 x93) fun x94 =>
  k_1 x94) fun x95 =>
  k x95) fun x96 =>
  sIf x96 (R (.bool false) h_8) (sIf x68 (sAdd .i64 x11 (.int .i64 1) fun x99 =>
  betonylaw09_UartOrder_j2 next x12 x8_2 x9_2 x10_2 x99 h_8) (betonylaw09_UartOrder_j2 next x12 x8_2 x9_2 x10_2 x11 h_8))) (betonylaw09_UartOrder_j2 next x12 x8_2 x9_2 x10_2 x11 h_5)
def betonylaw09_UartOrder_l1 (R : Value → Heap → Prop) (x1 x2 x28 : Value) (next : Value → Value → Value → Value → Value → Heap → Prop) (x8 x9 x10 x11 x12 : Value) (h_2 : Heap) : Prop :=
  sLen x1 fun x33 =>
  sLt x12 x33 fun x34 =>
  sIf x34 (sIxS x1 x12 1 fun x40 =>
  sLd h_2 x40 fun x41 =>
  uart_Line_Receive_c x28 x41 (.int .i64 0) h_2 fun x42 h_4 => 
  sIf x42 (sIxS x1 x12 1 fun x46 =>
  sLd h_4 x46 fun x47 =>
  sSlit h_4 #[.int .u8 0] [(0, 1, x47)] 5 1 fun x48 h_9 => 
  sApp h_9 x8 x48 #[.int .u8 0] 5 1 fun x49 h_10 => 
  sSlit h_10 #[.bool false] [(0, 1, x10)] 4 1 fun x52 h_11 => 
  sApp h_11 x9 x52 #[.bool false] 4 1 fun x53 h_12 => 
  betonylaw09_UartOrder_j3 R next x2 x28 x11 x12 x49 x53 (.bool false) h_12) (betonylaw09_UartOrder_j3 R next x2 x28 x11 x12 x8 x9 (.bool true) h_4)) (betonylaw09_awake_c  h_2 fun x100 h_13 => 
  R x100 h_13)
def betonylaw09_UartOrder_S (x0 x1 x2 : Value) (h : Heap) (R : Value → Heap → Prop) : Prop :=
  sLen x1 fun x16 =>
  sGt x16 (.int .i64 60) fun x17 =>
  sOr x17 (fun k_4 =>
  sLen x2 fun x20 =>
  sGt x20 (.int .i64 60) fun x21 =>
  k_4 x21) fun x22 =>
  sIf x22 (betonylaw09_awake_c  h fun x23 h => 
  R x23 h) (sConv .i64 x0 fun x25 =>
  sRem .i64 x25 (.int .i64 20) fun x26 =>
  sAdd .i64 (.int .i64 1) x26 fun x27 =>
  uart_New_c x27 h fun x28 h_1 => 
  sEqlNil x28 fun x30 =>
  sIf x30 (R (.bool false) h_1) (sLoop (S := Value × Value × Value × Value × Value) (fun nxt s h => betonylaw09_UartOrder_l1 R x1 x2 x28 (fun x8' x9' x10' x11' x12' h => nxt (x8', x9', x10', x11', x12') h) s.1 s.2.1 s.2.2.1 s.2.2.2.1 s.2.2.2.2 h) ((.slice none 0 0), (.slice none 0 0), (.bool false), (.int .i64 0), (.int .i64 0)) h_1))
set_option maxRecDepth 100000 in
theorem betonylaw09_UartOrder_runs {x0 x1 x2 : Value} {h : Heap} {R : Value → Heap → Prop} (H : betonylaw09_UartOrder_S x0 x1 x2 h R) : betonylaw09_UartOrder_c x0 x1 x2 h R := by
  unfold betonylaw09_UartOrder_S at H
  refine runs_of (b := ⟨([x0, x1, x2, undef, undef, undef, undef, undef, undef, undef, undef, undef, undef, undef, undef, undef, undef, undef, undef, undef, undef, undef, undef, undef, undef, undef, undef, undef, undef, undef, undef, undef, undef, undef, undef, undef, undef, undef, undef, undef, undef, undef, undef, undef, undef, undef, undef, undef, undef, undef] ++ [undef, undef, undef, undef, undef, undef, undef, undef, undef, undef, undef, undef, undef, undef, undef, undef, undef, undef, undef, undef, undef, undef, undef, undef, undef, undef, undef, undef, undef, undef, undef, undef, undef, undef, undef, undef, undef, undef, undef, undef, undef, undef, undef, undef, undef, undef, undef, undef, undef, undef] ++ [undef]).toArray, []⟩) Try.call8 Try.func8 rfl (by kernel_rfl) (fun w0 HA => ?_)
  refine wp_seq ?_
  refine lwp_list ?_
  refine ls_assign (x := (.bool false)) (by kernel_rfl) (by kernel_rfl) ?_
  refine ls_nil ?_
  refine then_normal ?_
  refine fr_eq (b := ⟨([x0, x1, x2, undef, undef, undef, (.bool false), undef, undef, undef, undef, undef, undef, undef, undef, undef, undef, undef, undef, undef, undef, undef, undef, undef, undef, undef, undef, undef, undef, undef, undef, undef, undef, undef, undef, undef, undef, undef, undef, undef, undef, undef, undef, undef, undef, undef, undef, undef, undef, undef] ++ [undef, undef, undef, undef, undef, undef, undef, undef, undef, undef, undef, undef, undef, undef, undef, undef, undef, undef, undef, undef, undef, undef, undef, undef, undef, undef, undef, undef, undef, undef, undef, undef, undef, undef, undef, undef, undef, undef, undef, undef, undef, undef, undef, undef, undef, undef, undef, undef, undef, undef] ++ [undef]).toArray, []⟩) (by kernel_rfl) ?_
  refine wp_seq ?_
  refine wp_seq ?_
  refine lwp_list ?_
  refine ls_move (x := x1) (by kernel_rfl) (by kernel_rfl) ?_
  refine ls_p (d := some 16) (by kernel_rfl) (by kernel_rfl) (p_len Try.underlying42 (by kernel_rfl) H) (fun x16 H => ?_)
  refine ls_p (d := some 17) (by kernel_rfl) (by kernel_rfl) (p_sGt (by kernel_rfl) (by kernel_rfl) H) (fun x17 H => ?_)
  refine ls_move (x := x17) (by kernel_rfl) (by kernel_rfl) ?_
  refine ls_or [(), (), (), ()] (fun K a w => ∃ (D : Nat → Value) (x22 : Value), a = ⟨([x0, x1, x2, undef, undef, undef, (.bool false), undef, undef, undef, undef, undef, undef, undef, undef, x1, x16, x17, x17, (D 0), (D 1), (D 2), x22, undef, undef, undef, undef, undef, undef, undef, undef, undef, undef, undef, undef, undef, undef, undef, undef, undef, undef, undef, undef, undef, undef, undef, undef, undef, undef, undef] ++ [undef, undef, undef, undef, undef, undef, undef, undef, undef, undef, undef, undef, undef, undef, undef, undef, undef, undef, undef, undef, undef, undef, undef, undef, undef, undef, undef, undef, undef, undef, undef, undef, undef, undef, undef, undef, undef, undef, undef, undef, undef, undef, undef, undef, undef, undef, undef, undef, undef, undef] ++ [undef]).toArray, []⟩ ∧ At w0 w h ∧ K x22) H (fun hb_4 H => ?_) (fun hb_4 H => ?_) ?_
  · refine ls_move (x := x2) (by rw [hb_4]; kernel_rfl) (by kernel_rfl) ?_
    refine ls_p (d := some 20) (by kernel_rfl) (by rw [hb_4]; kernel_rfl) (p_len Try.underlying43 (by kernel_rfl) H) (fun x20 H => ?_)
    refine ls_fr (b := ⟨([x0, x1, x2, undef, undef, undef, (.bool false), undef, undef, undef, undef, undef, undef, undef, undef, x1, x16, x17, x17, x2, x20, undef, undef, undef, undef, undef, undef, undef, undef, undef, undef, undef, undef, undef, undef, undef, undef, undef, undef, undef, undef, undef, undef, undef, undef, undef, undef, undef, undef, undef] ++ [undef, undef, undef, undef, undef, undef, undef, undef, undef, undef, undef, undef, undef, undef, undef, undef, undef, undef, undef, undef, undef, undef, undef, undef, undef, undef, undef, undef, undef, undef, undef, undef, undef, undef, undef, undef, undef, undef, undef, undef, undef, undef, undef, undef, undef, undef, undef, undef, undef, undef] ++ [undef]).toArray, []⟩) (by kernel_rfl) ?_
    refine ls_p (d := some 21) (by kernel_rfl) (by rw [hb_4]; kernel_rfl) (p_sGt (by kernel_rfl) (by kernel_rfl) H) (fun x21 H => ?_)
    refine ls_pick_f (y := x21) (by kernel_rfl) (by rw [hb_4]; kernel_rfl) (by kernel_rfl) ?_
    refine ls_nil ?_
    refine then_normal ?_
    exact ⟨(fun i => ([x2, x20, x21]).getD i undef), x21, by kernel_rfl, HA, H⟩
  · refine ls_skip (d := some 19) (by kernel_rfl) (by rw [hb_4]; kernel_rfl) ?_
    refine ls_skip (d := some 20) (by kernel_rfl) (by rw [hb_4]; kernel_rfl) ?_
    refine ls_fr (b := ⟨([x0, x1, x2, undef, undef, undef, (.bool false), undef, undef, undef, undef, undef, undef, undef, undef, x1, x16, x17, x17, undef, undef, undef, undef, undef, undef, undef, undef, undef, undef, undef, undef, undef, undef, undef, undef, undef, undef, undef, undef, undef, undef, undef, undef, undef, undef, undef, undef, undef, undef, undef] ++ [undef, undef, undef, undef, undef, undef, undef, undef, undef, undef, undef, undef, undef, undef, undef, undef, undef, undef, undef, undef, undef, undef, undef, undef, undef, undef, undef, undef, undef, undef, undef, undef, undef, undef, undef, undef, undef, undef, undef, undef, undef, undef, undef, undef, undef, undef, undef, undef, undef, undef] ++ [undef]).toArray, []⟩) (by kernel_rfl) ?_
    refine ls_skip (d := some 21) (by kernel_rfl) (by rw [hb_4]; kernel_rfl) ?_
    refine ls_pick_t (x := (.bool true)) (by kernel_rfl) (by rw [hb_4]; kernel_rfl) (by kernel_rfl) ?_
    refine ls_nil ?_
    refine then_normal ?_
    exact ⟨(fun i => ([undef, undef, undef]).getD i undef), (.bool true), by kernel_rfl, HA, H⟩
  · rintro _ w ⟨D, x22, rfl, HA, H⟩
    refine ls_nil ?_
    refine then_normal ?_
    refine fr_eq (b := ⟨([x0, x1, x2, undef, undef, undef, (.bool false), undef, undef, undef, undef, undef, undef, undef, undef, x1, x16, x17, x17, (D 0), (D 1), (D 2), x22, undef, undef, undef, undef, undef, undef, undef, undef, undef, undef, undef, undef, undef, undef, undef, undef, undef, undef, undef, undef, undef, undef, undef, undef, undef, undef, undef] ++ [undef, undef, undef, undef, undef, undef, undef, undef, undef, undef, undef, undef, undef, undef, undef, undef, undef, undef, undef, undef, undef, undef, undef, undef, undef, undef, undef, undef, undef, undef, undef, undef, undef, undef, undef, undef, undef, undef, undef, undef, undef, undef, undef, undef, undef, undef, undef, undef, undef, undef] ++ [undef]).toArray, []⟩) (by kernel_rfl) ?_
    refine wp_if rfl H (fun H => ?_) (fun H => ?_)
    · refine wp_seq ?_
      refine lwp_list ?_
      refine ls_d (d := some 23) (by kernel_rfl) (by kernel_rfl) HA (d_call (by kernel_rfl) (by kernel_rfl) H) (fun x23 h w_1 H HA_1 => ?_)
      refine ls_assign (x := x23) (by kernel_rfl) (by kernel_rfl) ?_
      refine ls_nil ?_
      refine then_normal ?_
      refine fr_eq (b := ⟨([x0, x1, x2, undef, undef, undef, x23, undef, undef, undef, undef, undef, undef, undef, undef, x1, x16, x17, x17, (D 0), (D 1), (D 2), x22, x23, undef, undef, undef, undef, undef, undef, undef, undef, undef, undef, undef, undef, undef, undef, undef, undef, undef, undef, undef, undef, undef, undef, undef, undef, undef, undef] ++ [undef, undef, undef, undef, undef, undef, undef, undef, undef, undef, undef, undef, undef, undef, undef, undef, undef, undef, undef, undef, undef, undef, undef, undef, undef, undef, undef, undef, undef, undef, undef, undef, undef, undef, undef, undef, undef, undef, undef, undef, undef, undef, undef, undef, undef, undef, undef, undef, undef, undef] ++ [undef]).toArray, []⟩) (by kernel_rfl) ?_
      refine wp_ret ?_
      refine then_ret ?_
      exact end1 (Try.results8) (by kernel_rfl) (by kernel_rfl) HA_1 H _ (.inr rfl)
    · refine wp_skip ?_
      refine then_normal ?_
      refine fr_eq (b := ⟨([x0, x1, x2, undef, undef, undef, (.bool false), undef, undef, undef, undef, undef, undef, undef, undef, x1, x16, x17, x17, (D 0), (D 1), (D 2), x22, undef, undef, undef, undef, undef, undef, undef, undef, undef, undef, undef, undef, undef, undef, undef, undef, undef, undef, undef, undef, undef, undef, undef, undef, undef, undef, undef] ++ [undef, undef, undef, undef, undef, undef, undef, undef, undef, undef, undef, undef, undef, undef, undef, undef, undef, undef, undef, undef, undef, undef, undef, undef, undef, undef, undef, undef, undef, undef, undef, undef, undef, undef, undef, undef, undef, undef, undef, undef, undef, undef, undef, undef, undef, undef, undef, undef, undef, undef] ++ [undef]).toArray, []⟩) (by kernel_rfl) ?_
      refine wp_seq ?_
      refine lwp_list ?_
      refine ls_move (x := x0) (by kernel_rfl) (by kernel_rfl) ?_
      refine ls_p (d := some 25) (by kernel_rfl) (by kernel_rfl) (p_conv Try.underlying5 Try.underlying3 (by kernel_rfl) H) (fun x25 H => ?_)
      refine ls_p (d := some 26) (by kernel_rfl) (by kernel_rfl) (p_rem (by kernel_rfl) (by kernel_rfl) H) (fun x26 H => ?_)
      refine ls_p (d := some 27) (by kernel_rfl) (by kernel_rfl) (p_add (by kernel_rfl) (by kernel_rfl) H) (fun x27 H => ?_)
      refine ls_d (d := some 28) (by kernel_rfl) (by kernel_rfl) HA (d_call (by kernel_rfl) (by kernel_rfl) H) (fun x28 h_1 w_2 H HA_2 => ?_)
      refine ls_assign (x := x28) (by kernel_rfl) (by kernel_rfl) ?_
      refine ls_nil ?_
      refine then_normal ?_
      refine fr_eq (b := ⟨([x0, x1, x2, undef, undef, undef, (.bool false), x28, undef, undef, undef, undef, undef, undef, undef, x1, x16, x17, x17, (D 0), (D 1), (D 2), x22, undef, x0, x25, x26, x27, x28, undef, undef, undef, undef, undef, undef, undef, undef, undef, undef, undef, undef, undef, undef, undef, undef, undef, undef, undef, undef, undef] ++ [undef, undef, undef, undef, undef, undef, undef, undef, undef, undef, undef, undef, undef, undef, undef, undef, undef, undef, undef, undef, undef, undef, undef, undef, undef, undef, undef, undef, undef, undef, undef, undef, undef, undef, undef, undef, undef, undef, undef, undef, undef, undef, undef, undef, undef, undef, undef, undef, undef, undef] ++ [undef]).toArray, []⟩) (by kernel_rfl) ?_
      refine wp_seq ?_
      refine wp_seq ?_
      refine lwp_list ?_
      refine ls_move (x := x28) (by kernel_rfl) (by kernel_rfl) ?_
      refine ls_p (d := some 30) (by kernel_rfl) (by kernel_rfl) (p_eqlNil Try.underlying44 (by kernel_rfl) (by kernel_rfl) H) (fun x30 H => ?_)
      refine ls_nil ?_
      refine then_normal ?_
      refine fr_eq (b := ⟨([x0, x1, x2, undef, undef, undef, (.bool false), x28, undef, undef, undef, undef, undef, undef, undef, x1, x16, x17, x17, (D 0), (D 1), (D 2), x22, undef, x0, x25, x26, x27, x28, x28, x30, undef, undef, undef, undef, undef, undef, undef, undef, undef, undef, undef, undef, undef, undef, undef, undef, undef, undef, undef] ++ [undef, undef, undef, undef, undef, undef, undef, undef, undef, undef, undef, undef, undef, undef, undef, undef, undef, undef, undef, undef, undef, undef, undef, undef, undef, undef, undef, undef, undef, undef, undef, undef, undef, undef, undef, undef, undef, undef, undef, undef, undef, undef, undef, undef, undef, undef, undef, undef, undef, undef] ++ [undef]).toArray, []⟩) (by kernel_rfl) ?_
      refine wp_if rfl H (fun H => ?_) (fun H => ?_)
      · refine wp_seq ?_
        refine lwp_list ?_
        refine ls_assign (x := (.bool false)) (by kernel_rfl) (by kernel_rfl) ?_
        refine ls_nil ?_
        refine then_normal ?_
        refine fr_eq (b := ⟨([x0, x1, x2, undef, undef, undef, (.bool false), x28, undef, undef, undef, undef, undef, undef, undef, x1, x16, x17, x17, (D 0), (D 1), (D 2), x22, undef, x0, x25, x26, x27, x28, x28, x30, undef, undef, undef, undef, undef, undef, undef, undef, undef, undef, undef, undef, undef, undef, undef, undef, undef, undef, undef] ++ [undef, undef, undef, undef, undef, undef, undef, undef, undef, undef, undef, undef, undef, undef, undef, undef, undef, undef, undef, undef, undef, undef, undef, undef, undef, undef, undef, undef, undef, undef, undef, undef, undef, undef, undef, undef, undef, undef, undef, undef, undef, undef, undef, undef, undef, undef, undef, undef, undef, undef] ++ [undef]).toArray, []⟩) (by kernel_rfl) ?_
        refine wp_ret ?_
        refine then_ret ?_
        exact end1 (Try.results8) (by kernel_rfl) (by kernel_rfl) HA_2 H _ (.inr rfl)
      · refine wp_skip ?_
        refine then_normal ?_
        refine fr_eq (b := ⟨([x0, x1, x2, undef, undef, undef, (.bool false), x28, undef, undef, undef, undef, undef, undef, undef, x1, x16, x17, x17, (D 0), (D 1), (D 2), x22, undef, x0, x25, x26, x27, x28, x28, x30, undef, undef, undef, undef, undef, undef, undef, undef, undef, undef, undef, undef, undef, undef, undef, undef, undef, undef, undef] ++ [undef, undef, undef, undef, undef, undef, undef, undef, undef, undef, undef, undef, undef, undef, undef, undef, undef, undef, undef, undef, undef, undef, undef, undef, undef, undef, undef, undef, undef, undef, undef, undef, undef, undef, undef, undef, undef, undef, undef, undef, undef, undef, undef, undef, undef, undef, undef, undef, undef, undef] ++ [undef]).toArray, []⟩) (by kernel_rfl) ?_
        refine wp_seq ?_
        refine lwp_list ?_
        refine ls_assign (x := (.slice none 0 0)) (by kernel_rfl) (by kernel_rfl) ?_
        refine ls_nil ?_
        refine then_normal ?_
        refine fr_eq (b := ⟨([x0, x1, x2, undef, undef, undef, (.bool false), x28, (.slice none 0 0), undef, undef, undef, undef, undef, undef, x1, x16, x17, x17, (D 0), (D 1), (D 2), x22, undef, x0, x25, x26, x27, x28, x28, x30, undef, undef, undef, undef, undef, undef, undef, undef, undef, undef, undef, undef, undef, undef, undef, undef, undef, undef, undef] ++ [undef, undef, undef, undef, undef, undef, undef, undef, undef, undef, undef, undef, undef, undef, undef, undef, undef, undef, undef, undef, undef, undef, undef, undef, undef, undef, undef, undef, undef, undef, undef, undef, undef, undef, undef, undef, undef, undef, undef, undef, undef, undef, undef, undef, undef, undef, undef, undef, undef, undef] ++ [undef]).toArray, []⟩) (by kernel_rfl) ?_
        refine wp_seq ?_
        refine lwp_list ?_
        refine ls_assign (x := (.slice none 0 0)) (by kernel_rfl) (by kernel_rfl) ?_
        refine ls_nil ?_
        refine then_normal ?_
        refine fr_eq (b := ⟨([x0, x1, x2, undef, undef, undef, (.bool false), x28, (.slice none 0 0), (.slice none 0 0), undef, undef, undef, undef, undef, x1, x16, x17, x17, (D 0), (D 1), (D 2), x22, undef, x0, x25, x26, x27, x28, x28, x30, undef, undef, undef, undef, undef, undef, undef, undef, undef, undef, undef, undef, undef, undef, undef, undef, undef, undef, undef] ++ [undef, undef, undef, undef, undef, undef, undef, undef, undef, undef, undef, undef, undef, undef, undef, undef, undef, undef, undef, undef, undef, undef, undef, undef, undef, undef, undef, undef, undef, undef, undef, undef, undef, undef, undef, undef, undef, undef, undef, undef, undef, undef, undef, undef, undef, undef, undef, undef, undef, undef] ++ [undef]).toArray, []⟩) (by kernel_rfl) ?_
        refine wp_seq ?_
        refine lwp_list ?_
        refine ls_assign (x := (.bool false)) (by kernel_rfl) (by kernel_rfl) ?_
        refine ls_nil ?_
        refine then_normal ?_
        refine fr_eq (b := ⟨([x0, x1, x2, undef, undef, undef, (.bool false), x28, (.slice none 0 0), (.slice none 0 0), (.bool false), undef, undef, undef, undef, x1, x16, x17, x17, (D 0), (D 1), (D 2), x22, undef, x0, x25, x26, x27, x28, x28, x30, undef, undef, undef, undef, undef, undef, undef, undef, undef, undef, undef, undef, undef, undef, undef, undef, undef, undef, undef] ++ [undef, undef, undef, undef, undef, undef, undef, undef, undef, undef, undef, undef, undef, undef, undef, undef, undef, undef, undef, undef, undef, undef, undef, undef, undef, undef, undef, undef, undef, undef, undef, undef, undef, undef, undef, undef, undef, undef, undef, undef, undef, undef, undef, undef, undef, undef, undef, undef, undef, undef] ++ [undef]).toArray, []⟩) (by kernel_rfl) ?_
        refine wp_seq ?_
        refine lwp_list ?_
        refine ls_assign (x := (.int .i64 0)) (by kernel_rfl) (by kernel_rfl) ?_
        refine ls_nil ?_
        refine then_normal ?_
        refine fr_eq (b := ⟨([x0, x1, x2, undef, undef, undef, (.bool false), x28, (.slice none 0 0), (.slice none 0 0), (.bool false), (.int .i64 0), undef, undef, undef, x1, x16, x17, x17, (D 0), (D 1), (D 2), x22, undef, x0, x25, x26, x27, x28, x28, x30, undef, undef, undef, undef, undef, undef, undef, undef, undef, undef, undef, undef, undef, undef, undef, undef, undef, undef, undef] ++ [undef, undef, undef, undef, undef, undef, undef, undef, undef, undef, undef, undef, undef, undef, undef, undef, undef, undef, undef, undef, undef, undef, undef, undef, undef, undef, undef, undef, undef, undef, undef, undef, undef, undef, undef, undef, undef, undef, undef, undef, undef, undef, undef, undef, undef, undef, undef, undef, undef, undef] ++ [undef]).toArray, []⟩) (by kernel_rfl) ?_
        refine wp_seq ?_
        refine wp_seq ?_
        refine lwp_list ?_
        refine ls_assign (x := (.int .i64 0)) (by kernel_rfl) (by kernel_rfl) ?_
        refine ls_nil ?_
        refine then_normal ?_
        refine fr_eq (b := ⟨([x0, x1, x2, undef, undef, undef, (.bool false), x28, (.slice none 0 0), (.slice none 0 0), (.bool false), (.int .i64 0), (.int .i64 0), undef, undef, x1, x16, x17, x17, (D 0), (D 1), (D 2), x22, undef, x0, x25, x26, x27, x28, x28, x30, undef, undef, undef, undef, undef, undef, undef, undef, undef, undef, undef, undef, undef, undef, undef, undef, undef, undef, undef] ++ [undef, undef, undef, undef, undef, undef, undef, undef, undef, undef, undef, undef, undef, undef, undef, undef, undef, undef, undef, undef, undef, undef, undef, undef, undef, undef, undef, undef, undef, undef, undef, undef, undef, undef, undef, undef, undef, undef, undef, undef, undef, undef, undef, undef, undef, undef, undef, undef, undef, undef] ++ [undef]).toArray, []⟩) (by kernel_rfl) ?_
        refine wp_block ?_
        obtain ⟨I, m, H0, HB⟩ := H
        refine wp_loop (fun a w => ∃ (D_1 : Nat → Value) (x8 x9 x10 x11 x12 : Value) (h_2 : Heap), a = ⟨([x0, x1, x2, undef, undef, undef, (D_1 0), x28, x8, x9, x10, x11, x12, (D_1 1), (D_1 2), x1, x16, x17, x17, (D 0), (D 1), (D 2), x22, undef, x0, x25, x26, x27, x28, x28, x30, (D_1 3), (D_1 4), (D_1 5), (D_1 6), (D_1 7), (D_1 8), (D_1 9), (D_1 10), (D_1 11), (D_1 12), (D_1 13), (D_1 14), (D_1 15), (D_1 16), (D_1 17), (D_1 18), (D_1 19), (D_1 20), (D_1 21)] ++ [(D_1 22), (D_1 23), (D_1 24), (D_1 25), (D_1 26), (D_1 27), (D_1 28), (D_1 29), (D_1 30), (D_1 31), (D_1 32), (D_1 33), (D_1 34), (D_1 35), (D_1 36), (D_1 37), (D_1 38), (D_1 39), (D_1 40), (D_1 41), (D_1 42), (D_1 43), (D_1 44), (D_1 45), (D_1 46), (D_1 47), (D_1 48), (D_1 49), (D_1 50), (D_1 51), (D_1 52), (D_1 53), (D_1 54), (D_1 55), (D_1 56), (D_1 57), (D_1 58), (D_1 59), (D_1 60), (D_1 61), (D_1 62), (D_1 63), (D_1 64), (D_1 65), (D_1 66), (D_1 67), (D_1 68), (D_1 69), (D_1 70), (D_1 71)] ++ [undef]).toArray, []⟩ ∧ At w0 w h_2 ∧ I (x8, x9, x10, x11, x12) h_2) (fun a w => m ((a.tmps.getD 8 undef), (a.tmps.getD 9 undef), (a.tmps.getD 10 undef), (a.tmps.getD 11 undef), (a.tmps.getD 12 undef)) w.heap) ?_ ?_
        · exact ⟨(fun i => ([(.bool false), undef, undef, undef, undef, undef, undef, undef, undef, undef, undef, undef, undef, undef, undef, undef, undef, undef, undef, undef, undef, undef, undef, undef, undef, undef, undef, undef, undef, undef, undef, undef, undef, undef, undef, undef, undef, undef, undef, undef, undef, undef, undef, undef, undef, undef, undef, undef, undef, undef] ++ [undef, undef, undef, undef, undef, undef, undef, undef, undef, undef, undef, undef, undef, undef, undef, undef, undef, undef, undef, undef, undef, undef]).getD i undef), (.slice none 0 0), (.slice none 0 0), (.bool false), (.int .i64 0), (.int .i64 0), h_1, by kernel_rfl, HA_2, H0⟩
        · rintro _ w_3 ⟨D_1, x8, x9, x10, x11, x12, h_2, rfl, HA_3, HI⟩
          have H : betonylaw09_UartOrder_l1 R x1 x2 x28 (fun x8' x9' x10' x11' x12' h' => I (x8', x9', x10', x11', x12') h' ∧ m (x8', x9', x10', x11', x12') h' < m (x8, x9, x10, x11, x12) h_2) x8 x9 x10 x11 x12 h_2 := HB (x8, x9, x10, x11, x12) h_2 HI
          clear HB H0 HI
          unfold betonylaw09_UartOrder_l1 at H
          refine wp_seq ?_
          refine wp_seq ?_
          refine lwp_list ?_
          refine ls_move (x := x12) (by kernel_rfl) (by kernel_rfl) ?_
          refine ls_move (x := x1) (by kernel_rfl) (by kernel_rfl) ?_
          refine ls_p (d := some 33) (by kernel_rfl) (by kernel_rfl) (p_len Try.underlying42 (by kernel_rfl) H) (fun x33 H => ?_)
          refine ls_p (d := some 34) (by kernel_rfl) (by kernel_rfl) (p_sLt (by kernel_rfl) (by kernel_rfl) H) (fun x34 H => ?_)
          refine ls_nil ?_
          refine then_normal ?_
          refine fr_eq (b := ⟨([x0, x1, x2, undef, undef, undef, (D_1 0), x28, x8, x9, x10, x11, x12, (D_1 1), (D_1 2), x1, x16, x17, x17, (D 0), (D 1), (D 2), x22, undef, x0, x25, x26, x27, x28, x28, x30, x12, x1, x33, x34, (D_1 7), (D_1 8), (D_1 9), (D_1 10), (D_1 11), (D_1 12), (D_1 13), (D_1 14), (D_1 15), (D_1 16), (D_1 17), (D_1 18), (D_1 19), (D_1 20), (D_1 21)] ++ [(D_1 22), (D_1 23), (D_1 24), (D_1 25), (D_1 26), (D_1 27), (D_1 28), (D_1 29), (D_1 30), (D_1 31), (D_1 32), (D_1 33), (D_1 34), (D_1 35), (D_1 36), (D_1 37), (D_1 38), (D_1 39), (D_1 40), (D_1 41), (D_1 42), (D_1 43), (D_1 44), (D_1 45), (D_1 46), (D_1 47), (D_1 48), (D_1 49), (D_1 50), (D_1 51), (D_1 52), (D_1 53), (D_1 54), (D_1 55), (D_1 56), (D_1 57), (D_1 58), (D_1 59), (D_1 60), (D_1 61), (D_1 62), (D_1 63), (D_1 64), (D_1 65), (D_1 66), (D_1 67), (D_1 68), (D_1 69), (D_1 70), (D_1 71)] ++ [undef]).toArray, []⟩) (by kernel_rfl) ?_
          refine wp_if rfl H (fun H => ?_) (fun H => ?_)
          · refine wp_skip ?_
            refine then_normal ?_
            refine fr_eq (b := ⟨([x0, x1, x2, undef, undef, undef, (D_1 0), x28, x8, x9, x10, x11, x12, (D_1 1), (D_1 2), x1, x16, x17, x17, (D 0), (D 1), (D 2), x22, undef, x0, x25, x26, x27, x28, x28, x30, x12, x1, x33, x34, (D_1 7), (D_1 8), (D_1 9), (D_1 10), (D_1 11), (D_1 12), (D_1 13), (D_1 14), (D_1 15), (D_1 16), (D_1 17), (D_1 18), (D_1 19), (D_1 20), (D_1 21)] ++ [(D_1 22), (D_1 23), (D_1 24), (D_1 25), (D_1 26), (D_1 27), (D_1 28), (D_1 29), (D_1 30), (D_1 31), (D_1 32), (D_1 33), (D_1 34), (D_1 35), (D_1 36), (D_1 37), (D_1 38), (D_1 39), (D_1 40), (D_1 41), (D_1 42), (D_1 43), (D_1 44), (D_1 45), (D_1 46), (D_1 47), (D_1 48), (D_1 49), (D_1 50), (D_1 51), (D_1 52), (D_1 53), (D_1 54), (D_1 55), (D_1 56), (D_1 57), (D_1 58), (D_1 59), (D_1 60), (D_1 61), (D_1 62), (D_1 63), (D_1 64), (D_1 65), (D_1 66), (D_1 67), (D_1 68), (D_1 69), (D_1 70), (D_1 71)] ++ [undef]).toArray, []⟩) (by kernel_rfl) ?_
            refine wp_seq ?_
            refine wp_join (fun a w => ∃ (D_2 : Nat → Value) (x8_1 x9_1 x10_1 x11_1 : Value) (h_3 : Heap), a = ⟨([x0, x1, x2, undef, undef, undef, (D_2 0), x28, x8_1, x9_1, x10_1, x11_1, x12, (D_2 1), (D_2 2), x1, x16, x17, x17, (D 0), (D 1), (D 2), x22, undef, x0, x25, x26, x27, x28, x28, x30, x12, x1, x33, x34, (D_1 7), (D_1 8), (D_2 3), (D_2 4), (D_2 5), (D_2 6), (D_2 7), (D_2 8), (D_2 9), (D_2 10), (D_2 11), (D_2 12), (D_2 13), (D_2 14), (D_2 15)] ++ [(D_2 16), (D_2 17), (D_2 18), (D_2 19), (D_2 20), (D_2 21), (D_2 22), (D_2 23), (D_2 24), (D_2 25), (D_2 26), (D_2 27), (D_2 28), (D_2 29), (D_2 30), (D_2 31), (D_2 32), (D_2 33), (D_2 34), (D_2 35), (D_2 36), (D_2 37), (D_2 38), (D_2 39), (D_2 40), (D_2 41), (D_2 42), (D_2 43), (D_2 44), (D_2 45), (D_2 46), (D_2 47), (D_2 48), (D_2 49), (D_2 50), (D_2 51), (D_2 52), (D_2 53), (D_2 54), (D_2 55), (D_2 56), (D_2 57), (D_2 58), (D_2 59), (D_2 60), (D_2 61), (D_2 62), (D_2 63), (D_2 64), (D_2 65)] ++ [undef]).toArray, []⟩ ∧ At w0 w h_3 ∧ betonylaw09_UartOrder_j2 (fun x8' x9' x10' x11' x12' h' => I (x8', x9', x10', x11', x12') h' ∧ m (x8', x9', x10', x11', x12') h' < m (x8, x9, x10, x11, x12) h_2) x12 x8_1 x9_1 x10_1 x11_1 h_3) ?_ ?_
            · refine wp_block ?_
              refine wp_seq ?_
              refine wp_seq ?_
              refine lwp_list ?_
              refine ls_move (x := x28) (by kernel_rfl) (by kernel_rfl) ?_
              refine ls_move (x := x1) (by kernel_rfl) (by kernel_rfl) ?_
              refine ls_move (x := x12) (by kernel_rfl) (by kernel_rfl) ?_
              refine ls_p (d := some 40) (by kernel_rfl) (by kernel_rfl) (p_ixs Try.underlying42 Try.sizeOf5 (by kernel_rfl) (by kernel_rfl) H) (fun x40 H => ?_)
              refine ls_y (d := some 41) (by kernel_rfl) (by kernel_rfl) HA_3 (y_ld Try.isAgg5 (by kernel_rfl) H) (fun x41 H => ?_)
              refine ls_d (d := some 42) (by kernel_rfl) (by kernel_rfl) HA_3 (d_call (by kernel_rfl) (by kernel_rfl) H) (fun x42 h_4 w_5 H HA_5 => ?_)
              refine ls_nil ?_
              refine then_normal ?_
              refine fr_eq (b := ⟨([x0, x1, x2, undef, undef, undef, (D_1 0), x28, x8, x9, x10, x11, x12, (D_1 1), (D_1 2), x1, x16, x17, x17, (D 0), (D 1), (D 2), x22, undef, x0, x25, x26, x27, x28, x28, x30, x12, x1, x33, x34, (D_1 7), (D_1 8), x28, x1, x12, x40, x41, x42, (D_1 15), (D_1 16), (D_1 17), (D_1 18), (D_1 19), (D_1 20), (D_1 21)] ++ [(D_1 22), (D_1 23), (D_1 24), (D_1 25), (D_1 26), (D_1 27), (D_1 28), (D_1 29), (D_1 30), (D_1 31), (D_1 32), (D_1 33), (D_1 34), (D_1 35), (D_1 36), (D_1 37), (D_1 38), (D_1 39), (D_1 40), (D_1 41), (D_1 42), (D_1 43), (D_1 44), (D_1 45), (D_1 46), (D_1 47), (D_1 48), (D_1 49), (D_1 50), (D_1 51), (D_1 52), (D_1 53), (D_1 54), (D_1 55), (D_1 56), (D_1 57), (D_1 58), (D_1 59), (D_1 60), (D_1 61), (D_1 62), (D_1 63), (D_1 64), (D_1 65), (D_1 66), (D_1 67), (D_1 68), (D_1 69), (D_1 70), (D_1 71)] ++ [undef]).toArray, []⟩) (by kernel_rfl) ?_
              refine wp_join (fun a w => ∃ (D_3 : Nat → Value) (x8_2 x9_2 x10_2 : Value) (h_5 : Heap), a = ⟨([x0, x1, x2, undef, undef, undef, (D_1 0), x28, x8_2, x9_2, x10_2, x11, x12, (D_1 1), (D_1 2), x1, x16, x17, x17, (D 0), (D 1), (D 2), x22, undef, x0, x25, x26, x27, x28, x28, x30, x12, x1, x33, x34, (D_1 7), (D_1 8), x28, x1, x12, x40, x41, x42, (D_3 0), (D_3 1), (D_3 2), (D_3 3), (D_3 4), (D_3 5), (D_3 6)] ++ [(D_3 7), (D_3 8), (D_3 9), (D_3 10), (D_1 26), (D_1 27), (D_1 28), (D_1 29), (D_1 30), (D_1 31), (D_1 32), (D_1 33), (D_1 34), (D_1 35), (D_1 36), (D_1 37), (D_1 38), (D_1 39), (D_1 40), (D_1 41), (D_1 42), (D_1 43), (D_1 44), (D_1 45), (D_1 46), (D_1 47), (D_1 48), (D_1 49), (D_1 50), (D_1 51), (D_1 52), (D_1 53), (D_1 54), (D_1 55), (D_1 56), (D_1 57), (D_1 58), (D_1 59), (D_1 60), (D_1 61), (D_1 62), (D_1 63), (D_1 64), (D_1 65), (D_1 66), (D_1 67), (D_1 68), (D_1 69), (D_1 70), (D_1 71)] ++ [undef]).toArray, []⟩ ∧ At w0 w h_5 ∧ betonylaw09_UartOrder_j3 R (fun x8' x9' x10' x11' x12' h' => I (x8', x9', x10', x11', x12') h' ∧ m (x8', x9', x10', x11', x12') h' < m (x8, x9, x10, x11, x12) h_2) x2 x28 x11 x12 x8_2 x9_2 x10_2 h_5) ?_ ?_
              · refine wp_if rfl H (fun H => ?_) (fun H => ?_)
                · refine wp_seq ?_
                  refine lwp_list ?_
                  refine ls_move (x := x8) (by kernel_rfl) (by kernel_rfl) ?_
                  refine ls_move (x := x1) (by kernel_rfl) (by kernel_rfl) ?_
                  refine ls_move (x := x12) (by kernel_rfl) (by kernel_rfl) ?_
                  refine ls_p (d := some 46) (by kernel_rfl) (by kernel_rfl) (p_ixs Try.underlying42 Try.sizeOf5 (by kernel_rfl) (by kernel_rfl) H) (fun x46 H => ?_)
                  refine ls_y (d := some 47) (by kernel_rfl) (by kernel_rfl) HA_5 (y_ld Try.isAgg5 (by kernel_rfl) H) (fun x47 H => ?_)
                  refine ls_d (d := some 48) (by kernel_rfl) (by kernel_rfl) HA_5 (d_slit (zc := #[.int .u8 0]) Try.underlying42 Try.sizeOf5 (by decide) (.inr ⟨by decide, _, Try.zeroValue5, (by kernel_rfl)⟩) (by kernel_rfl) (by kernel_rfl) H) (fun x48 h_9 w_12 H HA_12 => ?_)
                  refine ls_fr (b := ⟨([x0, x1, x2, undef, undef, undef, (D_1 0), x28, x8, x9, x10, x11, x12, (D_1 1), (D_1 2), x1, x16, x17, x17, (D 0), (D 1), (D 2), x22, undef, x0, x25, x26, x27, x28, x28, x30, x12, x1, x33, x34, (D_1 7), (D_1 8), x28, x1, x12, x40, x41, x42, x8, x1, x12, x46, x47, x48, (D_1 21)] ++ [(D_1 22), (D_1 23), (D_1 24), (D_1 25), (D_1 26), (D_1 27), (D_1 28), (D_1 29), (D_1 30), (D_1 31), (D_1 32), (D_1 33), (D_1 34), (D_1 35), (D_1 36), (D_1 37), (D_1 38), (D_1 39), (D_1 40), (D_1 41), (D_1 42), (D_1 43), (D_1 44), (D_1 45), (D_1 46), (D_1 47), (D_1 48), (D_1 49), (D_1 50), (D_1 51), (D_1 52), (D_1 53), (D_1 54), (D_1 55), (D_1 56), (D_1 57), (D_1 58), (D_1 59), (D_1 60), (D_1 61), (D_1 62), (D_1 63), (D_1 64), (D_1 65), (D_1 66), (D_1 67), (D_1 68), (D_1 69), (D_1 70), (D_1 71)] ++ [undef]).toArray, []⟩) (by kernel_rfl) ?_
                  refine ls_d (d := some 49) (by kernel_rfl) (by kernel_rfl) HA_12 (d_app (z := #[.int .u8 0]) Try.underlying42 Try.underlying42 (.inl ⟨_, rfl⟩) Try.typeInfo5 (by kernel_rfl) Try.sizeOf5 Try.zeroValue5 (by kernel_rfl) (by kernel_rfl) (by kernel_rfl) H) (fun x49 h_10 w_13 H HA_13 => ?_)
                  refine ls_assign (x := x49) (by kernel_rfl) (by kernel_rfl) ?_
                  refine ls_nil ?_
                  refine then_normal ?_
                  refine fr_eq (b := ⟨([x0, x1, x2, undef, undef, undef, (D_1 0), x28, x49, x9, x10, x11, x12, (D_1 1), (D_1 2), x1, x16, x17, x17, (D 0), (D 1), (D 2), x22, undef, x0, x25, x26, x27, x28, x28, x30, x12, x1, x33, x34, (D_1 7), (D_1 8), x28, x1, x12, x40, x41, x42, x8, x1, x12, x46, x47, x48, x49] ++ [(D_1 22), (D_1 23), (D_1 24), (D_1 25), (D_1 26), (D_1 27), (D_1 28), (D_1 29), (D_1 30), (D_1 31), (D_1 32), (D_1 33), (D_1 34), (D_1 35), (D_1 36), (D_1 37), (D_1 38), (D_1 39), (D_1 40), (D_1 41), (D_1 42), (D_1 43), (D_1 44), (D_1 45), (D_1 46), (D_1 47), (D_1 48), (D_1 49), (D_1 50), (D_1 51), (D_1 52), (D_1 53), (D_1 54), (D_1 55), (D_1 56), (D_1 57), (D_1 58), (D_1 59), (D_1 60), (D_1 61), (D_1 62), (D_1 63), (D_1 64), (D_1 65), (D_1 66), (D_1 67), (D_1 68), (D_1 69), (D_1 70), (D_1 71)] ++ [undef]).toArray, []⟩) (by kernel_rfl) ?_
                  refine wp_seq ?_
                  refine lwp_list ?_
                  refine ls_move (x := x9) (by kernel_rfl) (by kernel_rfl) ?_
                  refine ls_move (x := x10) (by kernel_rfl) (by kernel_rfl) ?_
                  refine ls_d (d := some 52) (by kernel_rfl) (by kernel_rfl) HA_13 (d_slit (zc := #[.bool false]) Try.underlying43 Try.sizeOf4 (by decide) (.inr ⟨by decide, _, Try.zeroValue4, (by kernel_rfl)⟩) (by kernel_rfl) (by kernel_rfl) H) (fun x52 h_11 w_14 H HA_14 => ?_)
                  refine ls_d (d := some 53) (by kernel_rfl) (by kernel_rfl) HA_14 (d_app (z := #[.bool false]) Try.underlying43 Try.underlying43 (.inl ⟨_, rfl⟩) Try.typeInfo4 (by kernel_rfl) Try.sizeOf4 Try.zeroValue4 (by kernel_rfl) (by kernel_rfl) (by kernel_rfl) H) (fun x53 h_12 w_15 H HA_15 => ?_)
                  refine ls_assign (x := x53) (by kernel_rfl) (by kernel_rfl) ?_
                  refine ls_nil ?_
                  refine then_normal ?_
                  refine fr_eq (b := ⟨([x0, x1, x2, undef, undef, undef, (D_1 0), x28, x49, x53, x10, x11, x12, (D_1 1), (D_1 2), x1, x16, x17, x17, (D 0), (D 1), (D 2), x22, undef, x0, x25, x26, x27, x28, x28, x30, x12, x1, x33, x34, (D_1 7), (D_1 8), x28, x1, x12, x40, x41, x42, x8, x1, x12, x46, x47, x48, x49] ++ [x9, x10, x52, x53, (D_1 26), (D_1 27), (D_1 28), (D_1 29), (D_1 30), (D_1 31), (D_1 32), (D_1 33), (D_1 34), (D_1 35), (D_1 36), (D_1 37), (D_1 38), (D_1 39), (D_1 40), (D_1 41), (D_1 42), (D_1 43), (D_1 44), (D_1 45), (D_1 46), (D_1 47), (D_1 48), (D_1 49), (D_1 50), (D_1 51), (D_1 52), (D_1 53), (D_1 54), (D_1 55), (D_1 56), (D_1 57), (D_1 58), (D_1 59), (D_1 60), (D_1 61), (D_1 62), (D_1 63), (D_1 64), (D_1 65), (D_1 66), (D_1 67), (D_1 68), (D_1 69), (D_1 70), (D_1 71)] ++ [undef]).toArray, []⟩) (by kernel_rfl) ?_
                  refine lwp_list ?_
                  refine ls_assign (x := (.bool false)) (by kernel_rfl) (by kernel_rfl) ?_
                  refine ls_nil ?_
                  exact ⟨(fun i => ([x8, x1, x12, x46, x47, x48, x49, x9, x10, x52, x53]).getD i undef), x49, x53, (.bool false), h_12, by kernel_rfl, HA_15, H⟩
                · refine lwp_list ?_
                  refine ls_assign (x := (.bool true)) (by kernel_rfl) (by kernel_rfl) ?_
                  refine ls_nil ?_
                  exact ⟨(fun i => ([(D_1 15), (D_1 16), (D_1 17), (D_1 18), (D_1 19), (D_1 20), (D_1 21), (D_1 22), (D_1 23), (D_1 24), (D_1 25)]).getD i undef), x8, x9, (.bool true), h_4, by kernel_rfl, HA_5, H⟩
              · rintro _ w_6 ⟨D_3, x8_2, x9_2, x10_2, h_5, rfl, HA_6, H⟩
                unfold betonylaw09_UartOrder_j3 at H
                refine then_normal ?_
                refine fr_eq (b := ⟨([x0, x1, x2, undef, undef, undef, (D_1 0), x28, x8_2, x9_2, x10_2, x11, x12, (D_1 1), (D_1 2), x1, x16, x17, x17, (D 0), (D 1), (D 2), x22, undef, x0, x25, x26, x27, x28, x28, x30, x12, x1, x33, x34, (D_1 7), (D_1 8), x28, x1, x12, x40, x41, x42, (D_3 0), (D_3 1), (D_3 2), (D_3 3), (D_3 4), (D_3 5), (D_3 6)] ++ [(D_3 7), (D_3 8), (D_3 9), (D_3 10), (D_1 26), (D_1 27), (D_1 28), (D_1 29), (D_1 30), (D_1 31), (D_1 32), (D_1 33), (D_1 34), (D_1 35), (D_1 36), (D_1 37), (D_1 38), (D_1 39), (D_1 40), (D_1 41), (D_1 42), (D_1 43), (D_1 44), (D_1 45), (D_1 46), (D_1 47), (D_1 48), (D_1 49), (D_1 50), (D_1 51), (D_1 52), (D_1 53), (D_1 54), (D_1 55), (D_1 56), (D_1 57), (D_1 58), (D_1 59), (D_1 60), (D_1 61), (D_1 62), (D_1 63), (D_1 64), (D_1 65), (D_1 66), (D_1 67), (D_1 68), (D_1 69), (D_1 70), (D_1 71)] ++ [undef]).toArray, []⟩) (by kernel_rfl) ?_
                refine wp_seq ?_
                refine lwp_list ?_
                refine ls_move (x := x12) (by kernel_rfl) (by kernel_rfl) ?_
                refine ls_move (x := x2) (by kernel_rfl) (by kernel_rfl) ?_
                refine ls_p (d := some 56) (by kernel_rfl) (by kernel_rfl) (p_len Try.underlying43 (by kernel_rfl) H) (fun x56 H => ?_)
                refine ls_p (d := some 57) (by kernel_rfl) (by kernel_rfl) (p_sLt (by kernel_rfl) (by kernel_rfl) H) (fun x57 H => ?_)
                refine ls_move (x := x57) (by kernel_rfl) (by kernel_rfl) ?_
                refine ls_and [(), (), (), (), ()] (fun K a w => ∃ (D_4 : Nat → Value) (x63 : Value), a = ⟨([x0, x1, x2, undef, undef, undef, (D_1 0), x28, x8_2, x9_2, x10_2, x11, x12, (D_1 1), (D_1 2), x1, x16, x17, x17, (D 0), (D 1), (D 2), x22, undef, x0, x25, x26, x27, x28, x28, x30, x12, x1, x33, x34, (D_1 7), (D_1 8), x28, x1, x12, x40, x41, x42, (D_3 0), (D_3 1), (D_3 2), (D_3 3), (D_3 4), (D_3 5), (D_3 6)] ++ [(D_3 7), (D_3 8), (D_3 9), (D_3 10), x12, x2, x56, x57, x57, (D_4 0), (D_4 1), (D_4 2), (D_4 3), x63, (D_1 36), (D_1 37), (D_1 38), (D_1 39), (D_1 40), (D_1 41), (D_1 42), (D_1 43), (D_1 44), (D_1 45), (D_1 46), (D_1 47), (D_1 48), (D_1 49), (D_1 50), (D_1 51), (D_1 52), (D_1 53), (D_1 54), (D_1 55), (D_1 56), (D_1 57), (D_1 58), (D_1 59), (D_1 60), (D_1 61), (D_1 62), (D_1 63), (D_1 64), (D_1 65), (D_1 66), (D_1 67), (D_1 68), (D_1 69), (D_1 70), (D_1 71)] ++ [undef]).toArray, []⟩ ∧ At w0 w h_5 ∧ K x63) H (fun hb_3 H => ?_) (fun hb_3 H => ?_) ?_
                · refine ls_move (x := x2) (by rw [hb_3]; kernel_rfl) (by kernel_rfl) ?_
                  refine ls_fr (b := ⟨([x0, x1, x2, undef, undef, undef, (D_1 0), x28, x8_2, x9_2, x10_2, x11, x12, (D_1 1), (D_1 2), x1, x16, x17, x17, (D 0), (D 1), (D 2), x22, undef, x0, x25, x26, x27, x28, x28, x30, x12, x1, x33, x34, (D_1 7), (D_1 8), x28, x1, x12, x40, x41, x42, (D_3 0), (D_3 1), (D_3 2), (D_3 3), (D_3 4), (D_3 5), (D_3 6)] ++ [(D_3 7), (D_3 8), (D_3 9), (D_3 10), x12, x2, x56, x57, x57, x2, (D_1 32), (D_1 33), (D_1 34), (D_1 35), (D_1 36), (D_1 37), (D_1 38), (D_1 39), (D_1 40), (D_1 41), (D_1 42), (D_1 43), (D_1 44), (D_1 45), (D_1 46), (D_1 47), (D_1 48), (D_1 49), (D_1 50), (D_1 51), (D_1 52), (D_1 53), (D_1 54), (D_1 55), (D_1 56), (D_1 57), (D_1 58), (D_1 59), (D_1 60), (D_1 61), (D_1 62), (D_1 63), (D_1 64), (D_1 65), (D_1 66), (D_1 67), (D_1 68), (D_1 69), (D_1 70), (D_1 71)] ++ [undef]).toArray, []⟩) (by kernel_rfl) ?_
                  refine ls_move (x := x12) (by rw [hb_3]; kernel_rfl) (by kernel_rfl) ?_
                  refine ls_p (d := some 61) (by kernel_rfl) (by rw [hb_3]; kernel_rfl) (p_ixs Try.underlying43 Try.sizeOf4 (by kernel_rfl) (by kernel_rfl) H) (fun x61 H => ?_)
                  refine ls_y (d := some 62) (by kernel_rfl) (by rw [hb_3]; kernel_rfl) HA_6 (y_ld Try.isAgg4 (by kernel_rfl) H) (fun x62 H => ?_)
                  refine ls_pick_t (x := x62) (by kernel_rfl) (by rw [hb_3]; kernel_rfl) (by kernel_rfl) ?_
                  refine ls_nil ?_
                  refine then_normal ?_
                  exact ⟨(fun i => ([x2, x12, x61, x62]).getD i undef), x62, by kernel_rfl, HA_6, H⟩
                · refine ls_skip (d := some 59) (by kernel_rfl) (by rw [hb_3]; kernel_rfl) ?_
                  refine ls_fr (b := ⟨([x0, x1, x2, undef, undef, undef, (D_1 0), x28, x8_2, x9_2, x10_2, x11, x12, (D_1 1), (D_1 2), x1, x16, x17, x17, (D 0), (D 1), (D 2), x22, undef, x0, x25, x26, x27, x28, x28, x30, x12, x1, x33, x34, (D_1 7), (D_1 8), x28, x1, x12, x40, x41, x42, (D_3 0), (D_3 1), (D_3 2), (D_3 3), (D_3 4), (D_3 5), (D_3 6)] ++ [(D_3 7), (D_3 8), (D_3 9), (D_3 10), x12, x2, x56, x57, x57, undef, (D_1 32), (D_1 33), (D_1 34), (D_1 35), (D_1 36), (D_1 37), (D_1 38), (D_1 39), (D_1 40), (D_1 41), (D_1 42), (D_1 43), (D_1 44), (D_1 45), (D_1 46), (D_1 47), (D_1 48), (D_1 49), (D_1 50), (D_1 51), (D_1 52), (D_1 53), (D_1 54), (D_1 55), (D_1 56), (D_1 57), (D_1 58), (D_1 59), (D_1 60), (D_1 61), (D_1 62), (D_1 63), (D_1 64), (D_1 65), (D_1 66), (D_1 67), (D_1 68), (D_1 69), (D_1 70), (D_1 71)] ++ [undef]).toArray, []⟩) (by kernel_rfl) ?_
                  refine ls_skip (d := some 60) (by kernel_rfl) (by rw [hb_3]; kernel_rfl) ?_
                  refine ls_skip (d := some 61) (by kernel_rfl) (by rw [hb_3]; kernel_rfl) ?_
                  refine ls_skip (d := some 62) (by kernel_rfl) (by rw [hb_3]; kernel_rfl) ?_
                  refine ls_pick_f (y := (.bool false)) (by kernel_rfl) (by rw [hb_3]; kernel_rfl) (by kernel_rfl) ?_
                  refine ls_nil ?_
                  refine then_normal ?_
                  exact ⟨(fun i => ([undef, undef, undef, undef]).getD i undef), (.bool false), by kernel_rfl, HA_6, H⟩
                · rintro _ w_7 ⟨D_4, x63, rfl, HA_7, H⟩
                  refine ls_nil ?_
                  refine then_normal ?_
                  refine fr_eq (b := ⟨([x0, x1, x2, undef, undef, undef, (D_1 0), x28, x8_2, x9_2, x10_2, x11, x12, (D_1 1), (D_1 2), x1, x16, x17, x17, (D 0), (D 1), (D 2), x22, undef, x0, x25, x26, x27, x28, x28, x30, x12, x1, x33, x34, (D_1 7), (D_1 8), x28, x1, x12, x40, x41, x42, (D_3 0), (D_3 1), (D_3 2), (D_3 3), (D_3 4), (D_3 5), (D_3 6)] ++ [(D_3 7), (D_3 8), (D_3 9), (D_3 10), x12, x2, x56, x57, x57, (D_4 0), (D_4 1), (D_4 2), (D_4 3), x63, (D_1 36), (D_1 37), (D_1 38), (D_1 39), (D_1 40), (D_1 41), (D_1 42), (D_1 43), (D_1 44), (D_1 45), (D_1 46), (D_1 47), (D_1 48), (D_1 49), (D_1 50), (D_1 51), (D_1 52), (D_1 53), (D_1 54), (D_1 55), (D_1 56), (D_1 57), (D_1 58), (D_1 59), (D_1 60), (D_1 61), (D_1 62), (D_1 63), (D_1 64), (D_1 65), (D_1 66), (D_1 67), (D_1 68), (D_1 69), (D_1 70), (D_1 71)] ++ [undef]).toArray, []⟩) (by kernel_rfl) ?_
                  refine wp_if rfl H (fun H => ?_) (fun H => ?_)
                  · refine wp_seq ?_
                    refine lwp_list ?_
                    refine ls_move (x := x28) (by kernel_rfl) (by kernel_rfl) ?_
                    refine ls_d (d := some 66) (by kernel_rfl) (by kernel_rfl) HA_7 (d_call (by kernel_rfl) (by kernel_rfl) H) (fun x66 h_6 w_8 H HA_8 => ?_)
                    refine ls_move (x := x66) (by kernel_rfl) (by kernel_rfl) ?_
                    refine ls_p (d := some 67) (by kernel_rfl) (by kernel_rfl) (p_tup (by kernel_rfl) H) (fun x67 H => ?_)
                    refine ls_p (d := some 68) (by kernel_rfl) (by kernel_rfl) (p_tup (by kernel_rfl) H) (fun x68 H => ?_)
                    refine ls_d (d := some 13) (by kernel_rfl) (by kernel_rfl) HA_8 (d_alloc Try.zeroValue48 H) (fun x13 h_7 w_9 H HA_9 => ?_)
                    refine ls_fr (b := ⟨([x0, x1, x2, undef, undef, undef, (D_1 0), x28, x8_2, x9_2, x10_2, x11, x12, x13, (D_1 2), x1, x16, x17, x17, (D 0), (D 1), (D 2), x22, undef, x0, x25, x26, x27, x28, x28, x30, x12, x1, x33, x34, (D_1 7), (D_1 8), x28, x1, x12, x40, x41, x42, (D_3 0), (D_3 1), (D_3 2), (D_3 3), (D_3 4), (D_3 5), (D_3 6)] ++ [(D_3 7), (D_3 8), (D_3 9), (D_3 10), x12, x2, x56, x57, x57, (D_4 0), (D_4 1), (D_4 2), (D_4 3), x63, x66, x28, x66, x67, x68, (D_1 41), (D_1 42), (D_1 43), (D_1 44), (D_1 45), (D_1 46), (D_1 47), (D_1 48), (D_1 49), (D_1 50), (D_1 51), (D_1 52), (D_1 53), (D_1 54), (D_1 55), (D_1 56), (D_1 57), (D_1 58), (D_1 59), (D_1 60), (D_1 61), (D_1 62), (D_1 63), (D_1 64), (D_1 65), (D_1 66), (D_1 67), (D_1 68), (D_1 69), (D_1 70), (D_1 71)] ++ [undef]).toArray, []⟩) (by kernel_rfl) ?_
                    refine ls_d (d := none) (by kernel_rfl) (by kernel_rfl) HA_9 (d_stn Try.sizeOf48 (by kernel_rfl) (by kernel_rfl) H) (fun _ h_8 w_10 H HA_10 => ?_)
                    refine ls_assign (x := x68) (by kernel_rfl) (by kernel_rfl) ?_
                    refine ls_nil ?_
                    refine then_normal ?_
                    refine fr_eq (b := ⟨([x0, x1, x2, undef, undef, undef, (D_1 0), x28, x8_2, x9_2, x10_2, x11, x12, x13, x68, x1, x16, x17, x17, (D 0), (D 1), (D 2), x22, undef, x0, x25, x26, x27, x28, x28, x30, x12, x1, x33, x34, (D_1 7), (D_1 8), x28, x1, x12, x40, x41, x42, (D_3 0), (D_3 1), (D_3 2), (D_3 3), (D_3 4), (D_3 5), (D_3 6)] ++ [(D_3 7), (D_3 8), (D_3 9), (D_3 10), x12, x2, x56, x57, x57, (D_4 0), (D_4 1), (D_4 2), (D_4 3), x63, x66, x28, x66, x67, x68, (D_1 41), (D_1 42), (D_1 43), (D_1 44), (D_1 45), (D_1 46), (D_1 47), (D_1 48), (D_1 49), (D_1 50), (D_1 51), (D_1 52), (D_1 53), (D_1 54), (D_1 55), (D_1 56), (D_1 57), (D_1 58), (D_1 59), (D_1 60), (D_1 61), (D_1 62), (D_1 63), (D_1 64), (D_1 65), (D_1 66), (D_1 67), (D_1 68), (D_1 69), (D_1 70), (D_1 71)] ++ [undef]).toArray, []⟩) (by kernel_rfl) ?_
                    refine wp_seq ?_
                    refine wp_seq ?_
                    refine lwp_qt (by kernel_rfl) (by kernel_rfl) HA_10 ?_
                    refine lq_move (x := x68) (by kernel_rfl) (by kernel_rfl) ?_
                    refine lq_move (x := x11) (by kernel_rfl) (by kernel_rfl) ?_
                    refine lq_move (x := x8_2) (by kernel_rfl) (by kernel_rfl) ?_
                    refine lq_p (d := some 72) (by kernel_rfl) (by kernel_rfl) (p_len Try.underlying42 (by kernel_rfl) H) (fun x72 H => ?_)
                    refine lq_p (d := some 73) (by kernel_rfl) (by kernel_rfl) (p_sLt (by kernel_rfl) (by kernel_rfl) H) (fun x73 H => ?_)
                    refine lq_p (d := some 74) (by kernel_rfl) (by kernel_rfl) (p_neqB Try.underlying4 (by kernel_rfl) (by kernel_rfl) H) (fun x74 H => ?_)
                    refine lq_fr (b := ⟨([x0, x1, x2, undef, undef, undef, (D_1 0), x28, x8_2, x9_2, x10_2, x11, x12, x13, x68, x1, x16, x17, x17, (D 0), (D 1), (D 2), x22, undef, x0, x25, x26, x27, x28, x28, x30, x12, x1, x33, x34, (D_1 7), (D_1 8), x28, x1, x12, x40, x41, x42, (D_3 0), (D_3 1), (D_3 2), (D_3 3), (D_3 4), (D_3 5), (D_3 6)] ++ [(D_3 7), (D_3 8), (D_3 9), (D_3 10), x12, x2, x56, x57, x57, (D_4 0), (D_4 1), (D_4 2), (D_4 3), x63, x66, x28, x66, x67, x68, x68, x11, x8_2, x72, x73, x74, (D_1 47), (D_1 48), (D_1 49), (D_1 50), (D_1 51), (D_1 52), (D_1 53), (D_1 54), (D_1 55), (D_1 56), (D_1 57), (D_1 58), (D_1 59), (D_1 60), (D_1 61), (D_1 62), (D_1 63), (D_1 64), (D_1 65), (D_1 66), (D_1 67), (D_1 68), (D_1 69), (D_1 70), (D_1 71)] ++ [undef]).toArray, []⟩) (by kernel_rfl) ?_
                    refine lq_move (x := x74) (by kernel_rfl) (by kernel_rfl) ?_
                    refine lq_or [(), (), (), (), (), (), (), (), (), (), (), (), (), (), (), (), (), (), (), (), ()] (fun K a => ∃ (D_5 : Nat → Value) (x96 : Value), a = ⟨([x0, x1, x2, undef, undef, undef, (D_1 0), x28, x8_2, x9_2, x10_2, x11, x12, x13, x68, x1, x16, x17, x17, (D 0), (D 1), (D 2), x22, undef, x0, x25, x26, x27, x28, x28, x30, x12, x1, x33, x34, (D_1 7), (D_1 8), x28, x1, x12, x40, x41, x42, (D_3 0), (D_3 1), (D_3 2), (D_3 3), (D_3 4), (D_3 5), (D_3 6)] ++ [(D_3 7), (D_3 8), (D_3 9), (D_3 10), x12, x2, x56, x57, x57, (D_4 0), (D_4 1), (D_4 2), (D_4 3), x63, x66, x28, x66, x67, x68, x68, x11, x8_2, x72, x73, x74, x74, (D_5 0), (D_5 1), (D_5 2), (D_5 3), (D_5 4), (D_5 5), (D_5 6), (D_5 7), (D_5 8), (D_5 9), (D_5 10), (D_5 11), (D_5 12), (D_5 13), (D_5 14), (D_5 15), (D_5 16), (D_5 17), (D_5 18), (D_5 19), x96, (D_1 69), (D_1 70), (D_1 71)] ++ [undef]).toArray, []⟩ ∧ K x96) H (fun hb H => ?_) (fun hb H => ?_) ?_
                    · refine lq_move (x := x68) (by rw [hb]; kernel_rfl) (by kernel_rfl) ?_
                      refine lq_move (x := x68) (by rw [hb]; kernel_rfl) (by kernel_rfl) ?_
                      refine lq_and [(), (), (), (), (), (), (), (), (), (), (), (), (), (), (), (), (), ()] (fun K a => ∃ (D_6 : Nat → Value) (x95 : Value), a = ⟨([x0, x1, x2, undef, undef, undef, (D_1 0), x28, x8_2, x9_2, x10_2, x11, x12, x13, x68, x1, x16, x17, x17, (D 0), (D 1), (D 2), x22, undef, x0, x25, x26, x27, x28, x28, x30, x12, x1, x33, x34, (D_1 7), (D_1 8), x28, x1, x12, x40, x41, x42, (D_3 0), (D_3 1), (D_3 2), (D_3 3), (D_3 4), (D_3 5), (D_3 6)] ++ [(D_3 7), (D_3 8), (D_3 9), (D_3 10), x12, x2, x56, x57, x57, (D_4 0), (D_4 1), (D_4 2), (D_4 3), x63, x66, x28, x66, x67, x68, x68, x11, x8_2, x72, x73, x74, x74, x68, x68, (D_6 0), (D_6 1), (D_6 2), (D_6 3), (D_6 4), (D_6 5), (D_6 6), (D_6 7), (D_6 8), (D_6 9), (D_6 10), (D_6 11), (D_6 12), (D_6 13), (D_6 14), (D_6 15), (D_6 16), x95, (D_1 68), (D_1 69), (D_1 70), (D_1 71)] ++ [undef]).toArray, []⟩ ∧ K x95) H (fun hb_1 H => ?_) (fun hb_1 H => ?_) ?_
                      · refine lq_p (d := some 78) (by kernel_rfl) (by rw [hb_1]; kernel_rfl) (p_off Try.underlying48 rfl (fun w => ⟨_, Try.sizeOf5 w⟩) rfl (by kernel_rfl) H) (fun x78 H => ?_)
                        refine lq_y (d := some 79) (by kernel_rfl) (by rw [hb_1]; kernel_rfl) HA_10 (y_ld Try.isAgg5 (by kernel_rfl) H) (fun x79 H => ?_)
                        refine lq_move (x := x8_2) (by rw [hb_1]; kernel_rfl) (by kernel_rfl) ?_
                        refine lq_fr (b := ⟨([x0, x1, x2, undef, undef, undef, (D_1 0), x28, x8_2, x9_2, x10_2, x11, x12, x13, x68, x1, x16, x17, x17, (D 0), (D 1), (D 2), x22, undef, x0, x25, x26, x27, x28, x28, x30, x12, x1, x33, x34, (D_1 7), (D_1 8), x28, x1, x12, x40, x41, x42, (D_3 0), (D_3 1), (D_3 2), (D_3 3), (D_3 4), (D_3 5), (D_3 6)] ++ [(D_3 7), (D_3 8), (D_3 9), (D_3 10), x12, x2, x56, x57, x57, (D_4 0), (D_4 1), (D_4 2), (D_4 3), x63, x66, x28, x66, x67, x68, x68, x11, x8_2, x72, x73, x74, x74, x68, x68, x78, x79, x8_2, (D_1 53), (D_1 54), (D_1 55), (D_1 56), (D_1 57), (D_1 58), (D_1 59), (D_1 60), (D_1 61), (D_1 62), (D_1 63), (D_1 64), (D_1 65), (D_1 66), (D_1 67), (D_1 68), (D_1 69), (D_1 70), (D_1 71)] ++ [undef]).toArray, []⟩) (by kernel_rfl) ?_
                        refine lq_move (x := x11) (by rw [hb_1]; kernel_rfl) (by kernel_rfl) ?_
                        refine lq_p (d := some 82) (by kernel_rfl) (by rw [hb_1]; kernel_rfl) (p_ixs Try.underlying42 Try.sizeOf5 (by kernel_rfl) (by kernel_rfl) H) (fun x82 H => ?_)
                        refine lq_y (d := some 83) (by kernel_rfl) (by rw [hb_1]; kernel_rfl) HA_10 (y_ld Try.isAgg5 (by kernel_rfl) H) (fun x83 H => ?_)
                        refine lq_p (d := some 84) (by kernel_rfl) (by rw [hb_1]; kernel_rfl) (p_sNe (by kernel_rfl) (by kernel_rfl) H) (fun x84 H => ?_)
                        refine lq_move (x := x84) (by rw [hb_1]; kernel_rfl) (by kernel_rfl) ?_
                        refine lq_or [(), (), (), (), (), (), (), (), ()] (fun K a => ∃ (D_7 : Nat → Value) (x94 : Value), a = ⟨([x0, x1, x2, undef, undef, undef, (D_1 0), x28, x8_2, x9_2, x10_2, x11, x12, x13, x68, x1, x16, x17, x17, (D 0), (D 1), (D 2), x22, undef, x0, x25, x26, x27, x28, x28, x30, x12, x1, x33, x34, (D_1 7), (D_1 8), x28, x1, x12, x40, x41, x42, (D_3 0), (D_3 1), (D_3 2), (D_3 3), (D_3 4), (D_3 5), (D_3 6)] ++ [(D_3 7), (D_3 8), (D_3 9), (D_3 10), x12, x2, x56, x57, x57, (D_4 0), (D_4 1), (D_4 2), (D_4 3), x63, x66, x28, x66, x67, x68, x68, x11, x8_2, x72, x73, x74, x74, x68, x68, x78, x79, x8_2, x11, x82, x83, x84, x84, (D_7 0), (D_7 1), (D_7 2), (D_7 3), (D_7 4), (D_7 5), (D_7 6), (D_7 7), x94, (D_1 67), (D_1 68), (D_1 69), (D_1 70), (D_1 71)] ++ [undef]).toArray, []⟩ ∧ K x94) H (fun hb_2 H => ?_) (fun hb_2 H => ?_) ?_
                        · refine lq_p (d := some 86) (by kernel_rfl) (by rw [hb_2]; kernel_rfl) (p_off Try.underlying48 rfl (fun w => ⟨_, Try.sizeOf3 w⟩) rfl (by kernel_rfl) H) (fun x86 H => ?_)
                          refine lq_fr (b := ⟨([x0, x1, x2, undef, undef, undef, (D_1 0), x28, x8_2, x9_2, x10_2, x11, x12, x13, x68, x1, x16, x17, x17, (D 0), (D 1), (D 2), x22, undef, x0, x25, x26, x27, x28, x28, x30, x12, x1, x33, x34, (D_1 7), (D_1 8), x28, x1, x12, x40, x41, x42, (D_3 0), (D_3 1), (D_3 2), (D_3 3), (D_3 4), (D_3 5), (D_3 6)] ++ [(D_3 7), (D_3 8), (D_3 9), (D_3 10), x12, x2, x56, x57, x57, (D_4 0), (D_4 1), (D_4 2), (D_4 3), x63, x66, x28, x66, x67, x68, x68, x11, x8_2, x72, x73, x74, x74, x68, x68, x78, x79, x8_2, x11, x82, x83, x84, x84, x86, (D_1 59), (D_1 60), (D_1 61), (D_1 62), (D_1 63), (D_1 64), (D_1 65), (D_1 66), (D_1 67), (D_1 68), (D_1 69), (D_1 70), (D_1 71)] ++ [undef]).toArray, []⟩) (by kernel_rfl) ?_
                          refine lq_y (d := some 87) (by kernel_rfl) (by rw [hb_2]; kernel_rfl) HA_10 (y_ld Try.isAgg3 (by kernel_rfl) H) (fun x87 H => ?_)
                          refine lq_p (d := some 88) (by kernel_rfl) (by rw [hb_2]; kernel_rfl) (p_sEq (by kernel_rfl) (by kernel_rfl) H) (fun x88 H => ?_)
                          refine lq_move (x := x9_2) (by rw [hb_2]; kernel_rfl) (by kernel_rfl) ?_
                          refine lq_move (x := x11) (by rw [hb_2]; kernel_rfl) (by kernel_rfl) ?_
                          refine lq_p (d := some 91) (by kernel_rfl) (by rw [hb_2]; kernel_rfl) (p_ixs Try.underlying43 Try.sizeOf4 (by kernel_rfl) (by kernel_rfl) H) (fun x91 H => ?_)
                          refine lq_y (d := some 92) (by kernel_rfl) (by rw [hb_2]; kernel_rfl) HA_10 (y_ld Try.isAgg4 (by kernel_rfl) H) (fun x92 H => ?_)
                          refine lq_fr (b := ⟨([x0, x1, x2, undef, undef, undef, (D_1 0), x28, x8_2, x9_2, x10_2, x11, x12, x13, x68, x1, x16, x17, x17, (D 0), (D 1), (D 2), x22, undef, x0, x25, x26, x27, x28, x28, x30, x12, x1, x33, x34, (D_1 7), (D_1 8), x28, x1, x12, x40, x41, x42, (D_3 0), (D_3 1), (D_3 2), (D_3 3), (D_3 4), (D_3 5), (D_3 6)] ++ [(D_3 7), (D_3 8), (D_3 9), (D_3 10), x12, x2, x56, x57, x57, (D_4 0), (D_4 1), (D_4 2), (D_4 3), x63, x66, x28, x66, x67, x68, x68, x11, x8_2, x72, x73, x74, x74, x68, x68, x78, x79, x8_2, x11, x82, x83, x84, x84, x86, x87, x88, x9_2, x11, x91, x92, (D_1 65), (D_1 66), (D_1 67), (D_1 68), (D_1 69), (D_1 70), (D_1 71)] ++ [undef]).toArray, []⟩) (by kernel_rfl) ?_
                          refine lq_p (d := some 93) (by kernel_rfl) (by rw [hb_2]; kernel_rfl) (p_neqB Try.underlying4 (by kernel_rfl) (by kernel_rfl) H) (fun x93 H => ?_)
                          refine lq_pick_f (y := x93) (by rw [hb_1]; kernel_rfl) (by rw [hb_2]; kernel_rfl) (by kernel_rfl) ?_
                          refine lq_nil ?_
                          exact ⟨(fun i => ([x86, x87, x88, x9_2, x11, x91, x92, x93]).getD i undef), x93, by kernel_rfl, H⟩
                        · refine lq_skip (d := some 86) (by kernel_rfl) (by rw [hb_2]; kernel_rfl) ?_
                          refine lq_fr (b := ⟨([x0, x1, x2, undef, undef, undef, (D_1 0), x28, x8_2, x9_2, x10_2, x11, x12, x13, x68, x1, x16, x17, x17, (D 0), (D 1), (D 2), x22, undef, x0, x25, x26, x27, x28, x28, x30, x12, x1, x33, x34, (D_1 7), (D_1 8), x28, x1, x12, x40, x41, x42, (D_3 0), (D_3 1), (D_3 2), (D_3 3), (D_3 4), (D_3 5), (D_3 6)] ++ [(D_3 7), (D_3 8), (D_3 9), (D_3 10), x12, x2, x56, x57, x57, (D_4 0), (D_4 1), (D_4 2), (D_4 3), x63, x66, x28, x66, x67, x68, x68, x11, x8_2, x72, x73, x74, x74, x68, x68, x78, x79, x8_2, x11, x82, x83, x84, x84, undef, (D_1 59), (D_1 60), (D_1 61), (D_1 62), (D_1 63), (D_1 64), (D_1 65), (D_1 66), (D_1 67), (D_1 68), (D_1 69), (D_1 70), (D_1 71)] ++ [undef]).toArray, []⟩) (by kernel_rfl) ?_
                          refine lq_skip (d := some 87) (by kernel_rfl) (by rw [hb_2]; kernel_rfl) ?_
                          refine lq_skip (d := some 88) (by kernel_rfl) (by rw [hb_2]; kernel_rfl) ?_
                          refine lq_skip (d := some 89) (by kernel_rfl) (by rw [hb_2]; kernel_rfl) ?_
                          refine lq_skip (d := some 90) (by kernel_rfl) (by rw [hb_2]; kernel_rfl) ?_
                          refine lq_skip (d := some 91) (by kernel_rfl) (by rw [hb_2]; kernel_rfl) ?_
                          refine lq_skip (d := some 92) (by kernel_rfl) (by rw [hb_2]; kernel_rfl) ?_
                          refine lq_fr (b := ⟨([x0, x1, x2, undef, undef, undef, (D_1 0), x28, x8_2, x9_2, x10_2, x11, x12, x13, x68, x1, x16, x17, x17, (D 0), (D 1), (D 2), x22, undef, x0, x25, x26, x27, x28, x28, x30, x12, x1, x33, x34, (D_1 7), (D_1 8), x28, x1, x12, x40, x41, x42, (D_3 0), (D_3 1), (D_3 2), (D_3 3), (D_3 4), (D_3 5), (D_3 6)] ++ [(D_3 7), (D_3 8), (D_3 9), (D_3 10), x12, x2, x56, x57, x57, (D_4 0), (D_4 1), (D_4 2), (D_4 3), x63, x66, x28, x66, x67, x68, x68, x11, x8_2, x72, x73, x74, x74, x68, x68, x78, x79, x8_2, x11, x82, x83, x84, x84, undef, undef, undef, undef, undef, undef, undef, (D_1 65), (D_1 66), (D_1 67), (D_1 68), (D_1 69), (D_1 70), (D_1 71)] ++ [undef]).toArray, []⟩) (by kernel_rfl) ?_
                          refine lq_skip (d := some 93) (by kernel_rfl) (by rw [hb_2]; kernel_rfl) ?_
                          refine lq_pick_t (x := (.bool true)) (by rw [hb_1]; kernel_rfl) (by rw [hb_2]; kernel_rfl) (by kernel_rfl) ?_
                          refine lq_nil ?_
                          exact ⟨(fun i => ([undef, undef, undef, undef, undef, undef, undef, undef]).getD i undef), (.bool true), by kernel_rfl, H⟩
                        · rintro _ ⟨D_7, x94, rfl, H⟩
                          refine lq_pick_t (x := x94) (by rw [hb]; kernel_rfl) (by rw [hb_1]; kernel_rfl) (by kernel_rfl) ?_
                          refine lq_nil ?_
                          exact ⟨(fun i => ([x78, x79, x8_2, x11, x82, x83, x84, x84, (D_7 0), (D_7 1), (D_7 2), (D_7 3), (D_7 4), (D_7 5), (D_7 6), (D_7 7), x94]).getD i undef), x94, by kernel_rfl, H⟩
                      · refine lq_skip (d := some 78) (by kernel_rfl) (by rw [hb_1]; kernel_rfl) ?_
                        refine lq_skip (d := some 79) (by kernel_rfl) (by rw [hb_1]; kernel_rfl) ?_
                        refine lq_skip (d := some 80) (by kernel_rfl) (by rw [hb_1]; kernel_rfl) ?_
                        refine lq_fr (b := ⟨([x0, x1, x2, undef, undef, undef, (D_1 0), x28, x8_2, x9_2, x10_2, x11, x12, x13, x68, x1, x16, x17, x17, (D 0), (D 1), (D 2), x22, undef, x0, x25, x26, x27, x28, x28, x30, x12, x1, x33, x34, (D_1 7), (D_1 8), x28, x1, x12, x40, x41, x42, (D_3 0), (D_3 1), (D_3 2), (D_3 3), (D_3 4), (D_3 5), (D_3 6)] ++ [(D_3 7), (D_3 8), (D_3 9), (D_3 10), x12, x2, x56, x57, x57, (D_4 0), (D_4 1), (D_4 2), (D_4 3), x63, x66, x28, x66, x67, x68, x68, x11, x8_2, x72, x73, x74, x74, x68, x68, undef, undef, undef, (D_1 53), (D_1 54), (D_1 55), (D_1 56), (D_1 57), (D_1 58), (D_1 59), (D_1 60), (D_1 61), (D_1 62), (D_1 63), (D_1 64), (D_1 65), (D_1 66), (D_1 67), (D_1 68), (D_1 69), (D_1 70), (D_1 71)] ++ [undef]).toArray, []⟩) (by kernel_rfl) ?_
                        refine lq_skip (d := some 81) (by kernel_rfl) (by rw [hb_1]; kernel_rfl) ?_
                        refine lq_skip (d := some 82) (by kernel_rfl) (by rw [hb_1]; kernel_rfl) ?_
                        refine lq_skip (d := some 83) (by kernel_rfl) (by rw [hb_1]; kernel_rfl) ?_
                        refine lq_skip (d := some 84) (by kernel_rfl) (by rw [hb_1]; kernel_rfl) ?_
                        refine lq_skip (d := some 85) (by kernel_rfl) (by rw [hb_1]; kernel_rfl) ?_
                        refine lq_skip (d := some 86) (by kernel_rfl) (by kernel_rfl) ?_
                        refine lq_fr (b := ⟨([x0, x1, x2, undef, undef, undef, (D_1 0), x28, x8_2, x9_2, x10_2, x11, x12, x13, x68, x1, x16, x17, x17, (D 0), (D 1), (D 2), x22, undef, x0, x25, x26, x27, x28, x28, x30, x12, x1, x33, x34, (D_1 7), (D_1 8), x28, x1, x12, x40, x41, x42, (D_3 0), (D_3 1), (D_3 2), (D_3 3), (D_3 4), (D_3 5), (D_3 6)] ++ [(D_3 7), (D_3 8), (D_3 9), (D_3 10), x12, x2, x56, x57, x57, (D_4 0), (D_4 1), (D_4 2), (D_4 3), x63, x66, x28, x66, x67, x68, x68, x11, x8_2, x72, x73, x74, x74, x68, x68, undef, undef, undef, undef, undef, undef, undef, undef, undef, (D_1 59), (D_1 60), (D_1 61), (D_1 62), (D_1 63), (D_1 64), (D_1 65), (D_1 66), (D_1 67), (D_1 68), (D_1 69), (D_1 70), (D_1 71)] ++ [undef]).toArray, []⟩) (by kernel_rfl) ?_
                        refine lq_skip (d := some 87) (by kernel_rfl) (by kernel_rfl) ?_
                        refine lq_skip (d := some 88) (by kernel_rfl) (by kernel_rfl) ?_
                        refine lq_skip (d := some 89) (by kernel_rfl) (by kernel_rfl) ?_
                        refine lq_skip (d := some 90) (by kernel_rfl) (by kernel_rfl) ?_
                        refine lq_skip (d := some 91) (by kernel_rfl) (by kernel_rfl) ?_
                        refine lq_skip (d := some 92) (by kernel_rfl) (by kernel_rfl) ?_
                        refine lq_fr (b := ⟨([x0, x1, x2, undef, undef, undef, (D_1 0), x28, x8_2, x9_2, x10_2, x11, x12, x13, x68, x1, x16, x17, x17, (D 0), (D 1), (D 2), x22, undef, x0, x25, x26, x27, x28, x28, x30, x12, x1, x33, x34, (D_1 7), (D_1 8), x28, x1, x12, x40, x41, x42, (D_3 0), (D_3 1), (D_3 2), (D_3 3), (D_3 4), (D_3 5), (D_3 6)] ++ [(D_3 7), (D_3 8), (D_3 9), (D_3 10), x12, x2, x56, x57, x57, (D_4 0), (D_4 1), (D_4 2), (D_4 3), x63, x66, x28, x66, x67, x68, x68, x11, x8_2, x72, x73, x74, x74, x68, x68, undef, undef, undef, undef, undef, undef, undef, undef, undef, undef, undef, undef, undef, undef, undef, (D_1 65), (D_1 66), (D_1 67), (D_1 68), (D_1 69), (D_1 70), (D_1 71)] ++ [undef]).toArray, []⟩) (by kernel_rfl) ?_
                        refine lq_skip (d := some 93) (by kernel_rfl) (by kernel_rfl) ?_
                        refine lq_skip (d := some 94) (by kernel_rfl) (by rw [hb_1]; kernel_rfl) ?_
                        refine lq_pick_f (y := (.bool false)) (by rw [hb]; kernel_rfl) (by rw [hb_1]; kernel_rfl) (by kernel_rfl) ?_
                        refine lq_nil ?_
                        exact ⟨(fun i => ([undef, undef, undef, undef, undef, undef, undef, undef, undef, undef, undef, undef, undef, undef, undef, undef, undef]).getD i undef), (.bool false), by kernel_rfl, H⟩
                      · rintro _ ⟨D_6, x95, rfl, H⟩
                        refine lq_pick_f (y := x95) (by kernel_rfl) (by rw [hb]; kernel_rfl) (by kernel_rfl) ?_
                        refine lq_nil ?_
                        exact ⟨(fun i => ([x68, x68, (D_6 0), (D_6 1), (D_6 2), (D_6 3), (D_6 4), (D_6 5), (D_6 6), (D_6 7), (D_6 8), (D_6 9), (D_6 10), (D_6 11), (D_6 12), (D_6 13), (D_6 14), (D_6 15), (D_6 16), x95]).getD i undef), x95, by kernel_rfl, H⟩
                    · refine lq_skip (d := some 76) (by kernel_rfl) (by rw [hb]; kernel_rfl) ?_
                      refine lq_skip (d := some 77) (by kernel_rfl) (by rw [hb]; kernel_rfl) ?_
                      refine lq_skip (d := some 78) (by kernel_rfl) (by kernel_rfl) ?_
                      refine lq_skip (d := some 79) (by kernel_rfl) (by kernel_rfl) ?_
                      refine lq_skip (d := some 80) (by kernel_rfl) (by kernel_rfl) ?_
                      refine lq_fr (b := ⟨([x0, x1, x2, undef, undef, undef, (D_1 0), x28, x8_2, x9_2, x10_2, x11, x12, x13, x68, x1, x16, x17, x17, (D 0), (D 1), (D 2), x22, undef, x0, x25, x26, x27, x28, x28, x30, x12, x1, x33, x34, (D_1 7), (D_1 8), x28, x1, x12, x40, x41, x42, (D_3 0), (D_3 1), (D_3 2), (D_3 3), (D_3 4), (D_3 5), (D_3 6)] ++ [(D_3 7), (D_3 8), (D_3 9), (D_3 10), x12, x2, x56, x57, x57, (D_4 0), (D_4 1), (D_4 2), (D_4 3), x63, x66, x28, x66, x67, x68, x68, x11, x8_2, x72, x73, x74, x74, undef, undef, undef, undef, undef, (D_1 53), (D_1 54), (D_1 55), (D_1 56), (D_1 57), (D_1 58), (D_1 59), (D_1 60), (D_1 61), (D_1 62), (D_1 63), (D_1 64), (D_1 65), (D_1 66), (D_1 67), (D_1 68), (D_1 69), (D_1 70), (D_1 71)] ++ [undef]).toArray, []⟩) (by kernel_rfl) ?_
                      refine lq_skip (d := some 81) (by kernel_rfl) (by kernel_rfl) ?_
                      refine lq_skip (d := some 82) (by kernel_rfl) (by kernel_rfl) ?_
                      refine lq_skip (d := some 83) (by kernel_rfl) (by kernel_rfl) ?_
                      refine lq_skip (d := some 84) (by kernel_rfl) (by kernel_rfl) ?_
                      refine lq_skip (d := some 85) (by kernel_rfl) (by kernel_rfl) ?_
                      refine lq_skip (d := some 86) (by kernel_rfl) (by kernel_rfl) ?_
                      refine lq_fr (b := ⟨([x0, x1, x2, undef, undef, undef, (D_1 0), x28, x8_2, x9_2, x10_2, x11, x12, x13, x68, x1, x16, x17, x17, (D 0), (D 1), (D 2), x22, undef, x0, x25, x26, x27, x28, x28, x30, x12, x1, x33, x34, (D_1 7), (D_1 8), x28, x1, x12, x40, x41, x42, (D_3 0), (D_3 1), (D_3 2), (D_3 3), (D_3 4), (D_3 5), (D_3 6)] ++ [(D_3 7), (D_3 8), (D_3 9), (D_3 10), x12, x2, x56, x57, x57, (D_4 0), (D_4 1), (D_4 2), (D_4 3), x63, x66, x28, x66, x67, x68, x68, x11, x8_2, x72, x73, x74, x74, undef, undef, undef, undef, undef, undef, undef, undef, undef, undef, undef, (D_1 59), (D_1 60), (D_1 61), (D_1 62), (D_1 63), (D_1 64), (D_1 65), (D_1 66), (D_1 67), (D_1 68), (D_1 69), (D_1 70), (D_1 71)] ++ [undef]).toArray, []⟩) (by kernel_rfl) ?_
                      refine lq_skip (d := some 87) (by kernel_rfl) (by kernel_rfl) ?_
                      refine lq_skip (d := some 88) (by kernel_rfl) (by kernel_rfl) ?_
                      refine lq_skip (d := some 89) (by kernel_rfl) (by kernel_rfl) ?_
                      refine lq_skip (d := some 90) (by kernel_rfl) (by kernel_rfl) ?_
                      refine lq_skip (d := some 91) (by kernel_rfl) (by kernel_rfl) ?_
                      refine lq_skip (d := some 92) (by kernel_rfl) (by kernel_rfl) ?_
                      refine lq_fr (b := ⟨([x0, x1, x2, undef, undef, undef, (D_1 0), x28, x8_2, x9_2, x10_2, x11, x12, x13, x68, x1, x16, x17, x17, (D 0), (D 1), (D 2), x22, undef, x0, x25, x26, x27, x28, x28, x30, x12, x1, x33, x34, (D_1 7), (D_1 8), x28, x1, x12, x40, x41, x42, (D_3 0), (D_3 1), (D_3 2), (D_3 3), (D_3 4), (D_3 5), (D_3 6)] ++ [(D_3 7), (D_3 8), (D_3 9), (D_3 10), x12, x2, x56, x57, x57, (D_4 0), (D_4 1), (D_4 2), (D_4 3), x63, x66, x28, x66, x67, x68, x68, x11, x8_2, x72, x73, x74, x74, undef, undef, undef, undef, undef, undef, undef, undef, undef, undef, undef, undef, undef, undef, undef, undef, undef, (D_1 65), (D_1 66), (D_1 67), (D_1 68), (D_1 69), (D_1 70), (D_1 71)] ++ [undef]).toArray, []⟩) (by kernel_rfl) ?_
                      refine lq_skip (d := some 93) (by kernel_rfl) (by kernel_rfl) ?_
                      refine lq_skip (d := some 94) (by kernel_rfl) (by kernel_rfl) ?_
                      refine lq_skip (d := some 95) (by kernel_rfl) (by rw [hb]; kernel_rfl) ?_
                      refine lq_pick_t (x := (.bool true)) (by kernel_rfl) (by rw [hb]; kernel_rfl) (by kernel_rfl) ?_
                      refine lq_nil ?_
                      exact ⟨(fun i => ([undef, undef, undef, undef, undef, undef, undef, undef, undef, undef, undef, undef, undef, undef, undef, undef, undef, undef, undef, undef]).getD i undef), (.bool true), by kernel_rfl, H⟩
                    · rintro _ ⟨D_5, x96, rfl, H⟩
                      refine lq_nil ?_
                      intro w_11 HA_11
                      refine then_normal ?_
                      refine fr_eq (b := ⟨([x0, x1, x2, undef, undef, undef, (D_1 0), x28, x8_2, x9_2, x10_2, x11, x12, x13, x68, x1, x16, x17, x17, (D 0), (D 1), (D 2), x22, undef, x0, x25, x26, x27, x28, x28, x30, x12, x1, x33, x34, (D_1 7), (D_1 8), x28, x1, x12, x40, x41, x42, (D_3 0), (D_3 1), (D_3 2), (D_3 3), (D_3 4), (D_3 5), (D_3 6)] ++ [(D_3 7), (D_3 8), (D_3 9), (D_3 10), x12, x2, x56, x57, x57, (D_4 0), (D_4 1), (D_4 2), (D_4 3), x63, x66, x28, x66, x67, x68, x68, x11, x8_2, x72, x73, x74, x74, (D_5 0), (D_5 1), (D_5 2), (D_5 3), (D_5 4), (D_5 5), (D_5 6), (D_5 7), (D_5 8), (D_5 9), (D_5 10), (D_5 11), (D_5 12), (D_5 13), (D_5 14), (D_5 15), (D_5 16), (D_5 17), (D_5 18), (D_5 19), x96, (D_1 69), (D_1 70), (D_1 71)] ++ [undef]).toArray, []⟩) (by kernel_rfl) ?_
                      refine wp_if rfl H (fun H => ?_) (fun H => ?_)
                      · refine wp_seq ?_
                        refine lwp_list ?_
                        refine ls_assign (x := (.bool false)) (by kernel_rfl) (by kernel_rfl) ?_
                        refine ls_nil ?_
                        refine then_normal ?_
                        refine fr_eq (b := ⟨([x0, x1, x2, undef, undef, undef, (.bool false), x28, x8_2, x9_2, x10_2, x11, x12, x13, x68, x1, x16, x17, x17, (D 0), (D 1), (D 2), x22, undef, x0, x25, x26, x27, x28, x28, x30, x12, x1, x33, x34, (D_1 7), (D_1 8), x28, x1, x12, x40, x41, x42, (D_3 0), (D_3 1), (D_3 2), (D_3 3), (D_3 4), (D_3 5), (D_3 6)] ++ [(D_3 7), (D_3 8), (D_3 9), (D_3 10), x12, x2, x56, x57, x57, (D_4 0), (D_4 1), (D_4 2), (D_4 3), x63, x66, x28, x66, x67, x68, x68, x11, x8_2, x72, x73, x74, x74, (D_5 0), (D_5 1), (D_5 2), (D_5 3), (D_5 4), (D_5 5), (D_5 6), (D_5 7), (D_5 8), (D_5 9), (D_5 10), (D_5 11), (D_5 12), (D_5 13), (D_5 14), (D_5 15), (D_5 16), (D_5 17), (D_5 18), (D_5 19), x96, (D_1 69), (D_1 70), (D_1 71)] ++ [undef]).toArray, []⟩) (by kernel_rfl) ?_
                        refine wp_ret ?_
                        refine then_ret ?_
                        refine block_ret ?_
                        refine then_ret ?_
                        refine then_ret ?_
                        refine then_ret ?_
                        refine block_ret ?_
                        refine then_ret ?_
                        exact end1 (Try.results8) (by kernel_rfl) (by kernel_rfl) HA_11 H _ (.inr rfl)
                      · refine wp_skip ?_
                        refine then_normal ?_
                        refine fr_eq (b := ⟨([x0, x1, x2, undef, undef, undef, (D_1 0), x28, x8_2, x9_2, x10_2, x11, x12, x13, x68, x1, x16, x17, x17, (D 0), (D 1), (D 2), x22, undef, x0, x25, x26, x27, x28, x28, x30, x12, x1, x33, x34, (D_1 7), (D_1 8), x28, x1, x12, x40, x41, x42, (D_3 0), (D_3 1), (D_3 2), (D_3 3), (D_3 4), (D_3 5), (D_3 6)] ++ [(D_3 7), (D_3 8), (D_3 9), (D_3 10), x12, x2, x56, x57, x57, (D_4 0), (D_4 1), (D_4 2), (D_4 3), x63, x66, x28, x66, x67, x68, x68, x11, x8_2, x72, x73, x74, x74, (D_5 0), (D_5 1), (D_5 2), (D_5 3), (D_5 4), (D_5 5), (D_5 6), (D_5 7), (D_5 8), (D_5 9), (D_5 10), (D_5 11), (D_5 12), (D_5 13), (D_5 14), (D_5 15), (D_5 16), (D_5 17), (D_5 18), (D_5 19), x96, (D_1 69), (D_1 70), (D_1 71)] ++ [undef]).toArray, []⟩) (by kernel_rfl) ?_
                        refine wp_seq ?_
                        refine lwp_list ?_
                        refine ls_move (x := x68) (by kernel_rfl) (by kernel_rfl) ?_
                        refine ls_nil ?_
                        refine then_normal ?_
                        refine fr_eq (b := ⟨([x0, x1, x2, undef, undef, undef, (D_1 0), x28, x8_2, x9_2, x10_2, x11, x12, x13, x68, x1, x16, x17, x17, (D 0), (D 1), (D 2), x22, undef, x0, x25, x26, x27, x28, x28, x30, x12, x1, x33, x34, (D_1 7), (D_1 8), x28, x1, x12, x40, x41, x42, (D_3 0), (D_3 1), (D_3 2), (D_3 3), (D_3 4), (D_3 5), (D_3 6)] ++ [(D_3 7), (D_3 8), (D_3 9), (D_3 10), x12, x2, x56, x57, x57, (D_4 0), (D_4 1), (D_4 2), (D_4 3), x63, x66, x28, x66, x67, x68, x68, x11, x8_2, x72, x73, x74, x74, (D_5 0), (D_5 1), (D_5 2), (D_5 3), (D_5 4), (D_5 5), (D_5 6), (D_5 7), (D_5 8), (D_5 9), (D_5 10), (D_5 11), (D_5 12), (D_5 13), (D_5 14), (D_5 15), (D_5 16), (D_5 17), (D_5 18), (D_5 19), x96, x68, (D_1 70), (D_1 71)] ++ [undef]).toArray, []⟩) (by kernel_rfl) ?_
                        refine wp_if rfl H (fun H => ?_) (fun H => ?_)
                        · refine lwp_list ?_
                          refine ls_move (x := x11) (by kernel_rfl) (by kernel_rfl) ?_
                          refine ls_p (d := some 99) (by kernel_rfl) (by kernel_rfl) (p_add (by kernel_rfl) (by kernel_rfl) H) (fun x99 H => ?_)
                          refine ls_assign (x := x99) (by kernel_rfl) (by kernel_rfl) ?_
                          refine ls_nil ?_
                          refine block_normal ?_
                          exact ⟨(fun i => ([(D_1 0), x13, x68, x28, x1, x12, x40, x41, x42, (D_3 0), (D_3 1), (D_3 2), (D_3 3), (D_3 4), (D_3 5), (D_3 6), (D_3 7), (D_3 8), (D_3 9), (D_3 10), x12, x2, x56, x57, x57, (D_4 0), (D_4 1), (D_4 2), (D_4 3), x63, x66, x28, x66, x67, x68, x68, x11, x8_2, x72, x73, x74, x74, (D_5 0), (D_5 1), (D_5 2), (D_5 3), (D_5 4), (D_5 5), (D_5 6), (D_5 7)] ++ [(D_5 8), (D_5 9), (D_5 10), (D_5 11), (D_5 12), (D_5 13), (D_5 14), (D_5 15), (D_5 16), (D_5 17), (D_5 18), (D_5 19), x96, x68, x11, x99]).getD i undef), x8_2, x9_2, x10_2, x99, h_8, by kernel_rfl, HA_11, H⟩
                        · refine wp_skip ?_
                          refine block_normal ?_
                          exact ⟨(fun i => ([(D_1 0), x13, x68, x28, x1, x12, x40, x41, x42, (D_3 0), (D_3 1), (D_3 2), (D_3 3), (D_3 4), (D_3 5), (D_3 6), (D_3 7), (D_3 8), (D_3 9), (D_3 10), x12, x2, x56, x57, x57, (D_4 0), (D_4 1), (D_4 2), (D_4 3), x63, x66, x28, x66, x67, x68, x68, x11, x8_2, x72, x73, x74, x74, (D_5 0), (D_5 1), (D_5 2), (D_5 3), (D_5 4), (D_5 5), (D_5 6), (D_5 7)] ++ [(D_5 8), (D_5 9), (D_5 10), (D_5 11), (D_5 12), (D_5 13), (D_5 14), (D_5 15), (D_5 16), (D_5 17), (D_5 18), (D_5 19), x96, x68, (D_1 70), (D_1 71)]).getD i undef), x8_2, x9_2, x10_2, x11, h_8, by kernel_rfl, HA_11, H⟩
                  · refine wp_skip ?_
                    refine block_normal ?_
                    exact ⟨(fun i => ([(D_1 0), (D_1 1), (D_1 2), x28, x1, x12, x40, x41, x42, (D_3 0), (D_3 1), (D_3 2), (D_3 3), (D_3 4), (D_3 5), (D_3 6), (D_3 7), (D_3 8), (D_3 9), (D_3 10), x12, x2, x56, x57, x57, (D_4 0), (D_4 1), (D_4 2), (D_4 3), x63, (D_1 36), (D_1 37), (D_1 38), (D_1 39), (D_1 40), (D_1 41), (D_1 42), (D_1 43), (D_1 44), (D_1 45), (D_1 46), (D_1 47), (D_1 48), (D_1 49), (D_1 50), (D_1 51), (D_1 52), (D_1 53), (D_1 54), (D_1 55)] ++ [(D_1 56), (D_1 57), (D_1 58), (D_1 59), (D_1 60), (D_1 61), (D_1 62), (D_1 63), (D_1 64), (D_1 65), (D_1 66), (D_1 67), (D_1 68), (D_1 69), (D_1 70), (D_1 71)]).getD i undef), x8_2, x9_2, x10_2, x11, h_5, by kernel_rfl, HA_7, H⟩
            · rintro _ w_4 ⟨D_2, x8_1, x9_1, x10_1, x11_1, h_3, rfl, HA_4, H⟩
              unfold betonylaw09_UartOrder_j2 at H
              refine then_normal ?_
              refine fr_eq (b := ⟨([x0, x1, x2, undef, undef, undef, (D_2 0), x28, x8_1, x9_1, x10_1, x11_1, x12, (D_2 1), (D_2 2), x1, x16, x17, x17, (D 0), (D 1), (D 2), x22, undef, x0, x25, x26, x27, x28, x28, x30, x12, x1, x33, x34, (D_1 7), (D_1 8), (D_2 3), (D_2 4), (D_2 5), (D_2 6), (D_2 7), (D_2 8), (D_2 9), (D_2 10), (D_2 11), (D_2 12), (D_2 13), (D_2 14), (D_2 15)] ++ [(D_2 16), (D_2 17), (D_2 18), (D_2 19), (D_2 20), (D_2 21), (D_2 22), (D_2 23), (D_2 24), (D_2 25), (D_2 26), (D_2 27), (D_2 28), (D_2 29), (D_2 30), (D_2 31), (D_2 32), (D_2 33), (D_2 34), (D_2 35), (D_2 36), (D_2 37), (D_2 38), (D_2 39), (D_2 40), (D_2 41), (D_2 42), (D_2 43), (D_2 44), (D_2 45), (D_2 46), (D_2 47), (D_2 48), (D_2 49), (D_2 50), (D_2 51), (D_2 52), (D_2 53), (D_2 54), (D_2 55), (D_2 56), (D_2 57), (D_2 58), (D_2 59), (D_2 60), (D_2 61), (D_2 62), (D_2 63), (D_2 64), (D_2 65)] ++ [undef]).toArray, []⟩) (by kernel_rfl) ?_
              refine lwp_list ?_
              refine ls_move (x := x12) (by kernel_rfl) (by kernel_rfl) ?_
              refine ls_p (d := some 36) (by kernel_rfl) (by kernel_rfl) (p_add (by kernel_rfl) (by kernel_rfl) H) (fun x36 H => ?_)
              refine ls_assign (x := x36) (by kernel_rfl) (by kernel_rfl) ?_
              refine ls_nil ?_
              exact ⟨⟨(fun i => ([(D_2 0), (D_2 1), (D_2 2), x12, x1, x33, x34, x12, x36, (D_2 3), (D_2 4), (D_2 5), (D_2 6), (D_2 7), (D_2 8), (D_2 9), (D_2 10), (D_2 11), (D_2 12), (D_2 13), (D_2 14), (D_2 15), (D_2 16), (D_2 17), (D_2 18), (D_2 19), (D_2 20), (D_2 21), (D_2 22), (D_2 23), (D_2 24), (D_2 25), (D_2 26), (D_2 27), (D_2 28), (D_2 29), (D_2 30), (D_2 31), (D_2 32), (D_2 33), (D_2 34), (D_2 35), (D_2 36), (D_2 37), (D_2 38), (D_2 39), (D_2 40), (D_2 41), (D_2 42), (D_2 43)] ++ [(D_2 44), (D_2 45), (D_2 46), (D_2 47), (D_2 48), (D_2 49), (D_2 50), (D_2 51), (D_2 52), (D_2 53), (D_2 54), (D_2 55), (D_2 56), (D_2 57), (D_2 58), (D_2 59), (D_2 60), (D_2 61), (D_2 62), (D_2 63), (D_2 64), (D_2 65)]).getD i undef), x8_1, x9_1, x10_1, x11_1, x36, h_3, by kernel_rfl, HA_4, H.1⟩, loop_lt HA_4.heap HA_3.heap (by kernel_rfl) (by kernel_rfl) H.2⟩
          · refine wp_exit ?_
            refine then_exit ?_
            refine then_exit ?_
            refine block_exit ?_
            refine then_normal ?_
            refine fr_eq (b := ⟨([x0, x1, x2, undef, undef, undef, (D_1 0), x28, x8, x9, x10, x11, x12, (D_1 1), (D_1 2), x1, x16, x17, x17, (D 0), (D 1), (D 2), x22, undef, x0, x25, x26, x27, x28, x28, x30, x12, x1, x33, x34, (D_1 7), (D_1 8), (D_1 9), (D_1 10), (D_1 11), (D_1 12), (D_1 13), (D_1 14), (D_1 15), (D_1 16), (D_1 17), (D_1 18), (D_1 19), (D_1 20), (D_1 21)] ++ [(D_1 22), (D_1 23), (D_1 24), (D_1 25), (D_1 26), (D_1 27), (D_1 28), (D_1 29), (D_1 30), (D_1 31), (D_1 32), (D_1 33), (D_1 34), (D_1 35), (D_1 36), (D_1 37), (D_1 38), (D_1 39), (D_1 40), (D_1 41), (D_1 42), (D_1 43), (D_1 44), (D_1 45), (D_1 46), (D_1 47), (D_1 48), (D_1 49), (D_1 50), (D_1 51), (D_1 52), (D_1 53), (D_1 54), (D_1 55), (D_1 56), (D_1 57), (D_1 58), (D_1 59), (D_1 60), (D_1 61), (D_1 62), (D_1 63), (D_1 64), (D_1 65), (D_1 66), (D_1 67), (D_1 68), (D_1 69), (D_1 70), (D_1 71)] ++ [undef]).toArray, []⟩) (by kernel_rfl) ?_
            refine wp_seq ?_
            refine lwp_list ?_
            refine ls_d (d := some 100) (by kernel_rfl) (by kernel_rfl) HA_3 (d_call (by kernel_rfl) (by kernel_rfl) H) (fun x100 h_13 w_16 H HA_16 => ?_)
            refine ls_assign (x := x100) (by kernel_rfl) (by kernel_rfl) ?_
            refine ls_nil ?_
            refine then_normal ?_
            refine fr_eq (b := ⟨([x0, x1, x2, undef, undef, undef, x100, x28, x8, x9, x10, x11, x12, (D_1 1), (D_1 2), x1, x16, x17, x17, (D 0), (D 1), (D 2), x22, undef, x0, x25, x26, x27, x28, x28, x30, x12, x1, x33, x34, (D_1 7), (D_1 8), (D_1 9), (D_1 10), (D_1 11), (D_1 12), (D_1 13), (D_1 14), (D_1 15), (D_1 16), (D_1 17), (D_1 18), (D_1 19), (D_1 20), (D_1 21)] ++ [(D_1 22), (D_1 23), (D_1 24), (D_1 25), (D_1 26), (D_1 27), (D_1 28), (D_1 29), (D_1 30), (D_1 31), (D_1 32), (D_1 33), (D_1 34), (D_1 35), (D_1 36), (D_1 37), (D_1 38), (D_1 39), (D_1 40), (D_1 41), (D_1 42), (D_1 43), (D_1 44), (D_1 45), (D_1 46), (D_1 47), (D_1 48), (D_1 49), (D_1 50), (D_1 51), (D_1 52), (D_1 53), (D_1 54), (D_1 55), (D_1 56), (D_1 57), (D_1 58), (D_1 59), (D_1 60), (D_1 61), (D_1 62), (D_1 63), (D_1 64), (D_1 65), (D_1 66), (D_1 67), (D_1 68), (D_1 69), (D_1 70), (D_1 71)] ++ [x100]).toArray, []⟩) (by kernel_rfl) ?_
            refine wp_ret ?_
            exact end1 (Try.results8) (by kernel_rfl) (by kernel_rfl) HA_16 H _ (.inr rfl)

end Go.Proofs.Ytecoejjpdogklaa
