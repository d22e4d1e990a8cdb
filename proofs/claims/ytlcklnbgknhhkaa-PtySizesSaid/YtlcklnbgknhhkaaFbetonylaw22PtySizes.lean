/- The shallow reading of one function, and that the function does it. Written by a program. -/
import Derived.Test.YtlcklnbgknhhkaaFnC
set_option linter.unusedVariables false
namespace Go.Proofs.Ytlcklnbgknhhkaa
open Go Go.HW

def betonylaw22_PtySizes_S (x0 x1 x2 : Value) (h : Heap) (R : Value → Heap → Prop) : Prop :=
  betonyref17_Plain_c  h fun x13 h => 
  pty_New_c x13 h fun x14 h_1 => 
  sEqlNil x14 fun x16 =>
  sIf x16 (R (.bool false) h_1) (sGe x0 (.int .i64 1) fun x18 =>
  sAnd x18 (fun k_15 =>
  sLe x0 (.int .i64 512) fun x21 =>
  k_15 x21) fun x22 =>
  sAnd x22 (fun k_14 =>
  sGe x1 (.int .i64 1) fun x25 =>
  k_14 x25) fun x26 =>
  sAnd x26 (fun k_13 =>
  sLe x1 (.int .i64 512) fun x29 =>
  k_13 x29) fun x30 =>
  pty_Pair_Resize_c x14 x0 x1 h_1 fun x35 h_2 => 
  sTup x35 0 fun x36 =>
  sTup x35 1 fun x37 =>
  sEq x37 (.int .i64 0) fun x39 =>
  sNeqB x39 x30 fun x41 =>
  sOr x41 (fun k_10 =>
  sNot x30 fun x44 =>
  sAnd x44 (fun k_11 =>
  sNe x37 (.int .i64 2) fun x47 =>
  sOr x47 (fun k_12 =>
  k_12 x36) fun x50 =>
  k_11 x50) fun x51 =>
  k_10 x51) fun x52 =>
  sOr x52 (fun k_7 =>
  sAnd x30 (fun k_8 =>
  sNe x0 (.int .i64 80) fun x58 =>
  sOr x58 (fun k_9 =>
  sNe x1 (.int .i64 24) fun x61 =>
  k_9 x61) fun x62 =>
  sNeqB x36 x62 fun x63 =>
  k_8 x63) fun x64 =>
  k_7 x64) fun x65 =>
  sIf x65 (R (.bool false) h_2) (pty_Pair_Size_c x14 h_2 fun x68 h_3 => 
  sTup x68 0 fun x69 =>
  sTup x68 1 fun x70 =>
  sAnd x30 (fun k_5 =>
  sNe x69 x0 fun x75 =>
  sOr x75 (fun k_6 =>
  sNe x70 x1 fun x79 =>
  k_6 x79) fun x80 =>
  k_5 x80) fun x81 =>
  sOr x81 (fun k_2 =>
  sNot x30 fun x84 =>
  sAnd x84 (fun k_3 =>
  sNe x69 (.int .i64 80) fun x87 =>
  sOr x87 (fun k_4 =>
  sNe x70 (.int .i64 24) fun x90 =>
  k_4 x90) fun x91 =>
  k_3 x91) fun x92 =>
  k_2 x92) fun x93 =>
  sIf x93 (R (.bool false) h_3) (sIf x2 (pty_Pair_Resize_c x14 x69 x70 h_3 fun x99 h_4 => 
  sTup x99 0 fun x100 =>
  sTup x99 1 fun x101 =>
  sNot x100 fun x103 =>
  sAnd x103 (fun k_1 =>
  sEq x101 (.int .i64 0) fun x106 =>
  k_1 x106) fun x107 =>
  sAndH x107 h_4 (fun k =>
  betonylaw22_awake_c  h_4 fun x109 h_6 => 
  k x109 h_6) fun x110 h_5 =>
  R x110 h_5) (betonylaw22_awake_c  h_3 fun x111 h_7 => 
  R x111 h_7))))
set_option maxHeartbeats 4000000 in
set_option maxRecDepth 100000 in
theorem betonylaw22_PtySizes_runs {x0 x1 x2 : Value} {h : Heap} {R : Value → Heap → Prop} (H : betonylaw22_PtySizes_S x0 x1 x2 h R) : betonylaw22_PtySizes_c x0 x1 x2 h R := by
  unfold betonylaw22_PtySizes_S at H
  refine runs_of (b := ⟨([x0, x1, x2, undef, undef, undef, undef, undef, undef, undef, undef, undef, undef, undef, undef, undef, undef, undef, undef, undef, undef, undef, undef, undef, undef, undef, undef, undef, undef, undef, undef, undef, undef, undef, undef, undef, undef, undef, undef, undef, undef, undef, undef, undef, undef, undef, undef, undef, undef, undef] ++ [undef, undef, undef, undef, undef, undef, undef, undef, undef, undef, undef, undef, undef, undef, undef, undef, undef, undef, undef, undef, undef, undef, undef, undef, undef, undef, undef, undef, undef, undef, undef, undef, undef, undef, undef, undef, undef, undef, undef, undef, undef, undef, undef, undef, undef, undef, undef, undef, undef, undef] ++ [undef, undef, undef, undef, undef, undef, undef, undef, undef, undef, undef, undef]).toArray, []⟩) Try.call10 Try.func10 rfl (by kernel_rfl) (fun w0 HA => ?_)
  refine wp_seq ?_
  refine lwp_list ?_
  refine ls_assign (x := (.bool false)) (by kernel_rfl) (by kernel_rfl) ?_
  refine ls_nil ?_
  refine then_normal ?_
  refine fr_eq (b := ⟨([x0, x1, x2, undef, undef, undef, (.bool false), undef, undef, undef, undef, undef, undef, undef, undef, undef, undef, undef, undef, undef, undef, undef, undef, undef, undef, undef, undef, undef, undef, undef, undef, undef, undef, undef, undef, undef, undef, undef, undef, undef, undef, undef, undef, undef, undef, undef, undef, undef, undef, undef] ++ [undef, undef, undef, undef, undef, undef, undef, undef, undef, undef, undef, undef, undef, undef, undef, undef, undef, undef, undef, undef, undef, undef, undef, undef, undef, undef, undef, undef, undef, undef, undef, undef, undef, undef, undef, undef, undef, undef, undef, undef, undef, undef, undef, undef, undef, undef, undef, undef, undef, undef] ++ [undef, undef, undef, undef, undef, undef, undef, undef, undef, undef, undef, undef]).toArray, []⟩) (by kernel_rfl) ?_
  refine wp_seq ?_
  refine lwp_list ?_
  refine ls_d (d := some 13) (by kernel_rfl) (by kernel_rfl) HA (d_call (by kernel_rfl) (by kernel_rfl) H) (fun x13 h w H HA => ?_)
  refine ls_d (d := some 14) (by kernel_rfl) (by kernel_rfl) HA (d_call (by kernel_rfl) (by kernel_rfl) H) (fun x14 h_1 w_1 H HA_1 => ?_)
  refine ls_assign (x := x14) (by kernel_rfl) (by kernel_rfl) ?_
  refine ls_nil ?_
  refine then_normal ?_
  refine fr_eq (b := ⟨([x0, x1, x2, undef, undef, undef, (.bool false), x14, undef, undef, undef, undef, undef, x13, x14, undef, undef, undef, undef, undef, undef, undef, undef, undef, undef, undef, undef, undef, undef, undef, undef, undef, undef, undef, undef, undef, undef, undef, undef, undef, undef, undef, undef, undef, undef, undef, undef, undef, undef, undef] ++ [undef, undef, undef, undef, undef, undef, undef, undef, undef, undef, undef, undef, undef, undef, undef, undef, undef, undef, undef, undef, undef, undef, undef, undef, undef, undef, undef, undef, undef, undef, undef, undef, undef, undef, undef, undef, undef, undef, undef, undef, undef, undef, undef, undef, undef, undef, undef, undef, undef, undef] ++ [undef, undef, undef, undef, undef, undef, undef, undef, undef, undef, undef, undef]).toArray, []⟩) (by kernel_rfl) ?_
  refine wp_seq ?_
  refine wp_seq ?_
  refine lwp_list ?_
  refine ls_move (x := x14) (by kernel_rfl) (by kernel_rfl) ?_
  refine ls_p (d := some 16) (by kernel_rfl) (by kernel_rfl) (p_eqlNil Try.underlying54 (by kernel_rfl) (by kernel_rfl) H) (fun x16 H => ?_)
  refine ls_nil ?_
  refine then_normal ?_
  refine fr_eq (b := ⟨([x0, x1, x2, undef, undef, undef, (.bool false), x14, undef, undef, undef, undef, undef, x13, x14, x14, x16, undef, undef, undef, undef, undef, undef, undef, undef, undef, undef, undef, undef, undef, undef, undef, undef, undef, undef, undef, undef, undef, undef, undef, undef, undef, undef, undef, undef, undef, undef, undef, undef, undef] ++ [undef, undef, undef, undef, undef, undef, undef, undef, undef, undef, undef, undef, undef, undef, undef, undef, undef, undef, undef, undef, undef, undef, undef, undef, undef, undef, undef, undef, undef, undef, undef, undef, undef, undef, undef, undef, undef, undef, undef, undef, undef, undef, undef, undef, undef, undef, undef, undef, undef, undef] ++ [undef, undef, undef, undef, undef, undef, undef, undef, undef, undef, undef, undef]).toArray, []⟩) (by kernel_rfl) ?_
  refine wp_if rfl H (fun H => ?_) (fun H => ?_)
  · refine wp_seq ?_
    refine lwp_list ?_
    refine ls_assign (x := (.bool false)) (by kernel_rfl) (by kernel_rfl) ?_
    refine ls_nil ?_
    refine then_normal ?_
    refine fr_eq (b := ⟨([x0, x1, x2, undef, undef, undef, (.bool false), x14, undef, undef, undef, undef, undef, x13, x14, x14, x16, undef, undef, undef, undef, undef, undef, undef, undef, undef, undef, undef, undef, undef, undef, undef, undef, undef, undef, undef, undef, undef, undef, undef, undef, undef, undef, undef, undef, undef, undef, undef, undef, undef] ++ [undef, undef, undef, undef, undef, undef, undef, undef, undef, undef, undef, undef, undef, undef, undef, undef, undef, undef, undef, undef, undef, undef, undef, undef, undef, undef, undef, undef, undef, undef, undef, undef, undef, undef, undef, undef, undef, undef, undef, undef, undef, undef, undef, undef, undef, undef, undef, undef, undef, undef] ++ [undef, undef, undef, undef, undef, undef, undef, undef, undef, undef, undef, undef]).toArray, []⟩) (by kernel_rfl) ?_
    refine wp_ret ?_
    refine then_ret ?_
    exact end1 (Try.results10) (by kernel_rfl) (by kernel_rfl) HA_1 H _ (.inr rfl)
  · refine wp_skip ?_
    refine then_normal ?_
    refine fr_eq (b := ⟨([x0, x1, x2, undef, undef, undef, (.bool false), x14, undef, undef, undef, undef, undef, x13, x14, x14, x16, undef, undef, undef, undef, undef, undef, undef, undef, undef, undef, undef, undef, undef, undef, undef, undef, undef, undef, undef, undef, undef, undef, undef, undef, undef, undef, undef, undef, undef, undef, undef, undef, undef] ++ [undef, undef, undef, undef, undef, undef, undef, undef, undef, undef, undef, undef, undef, undef, undef, undef, undef, undef, undef, undef, undef, undef, undef, undef, undef, undef, undef, undef, undef, undef, undef, undef, undef, undef, undef, undef, undef, undef, undef, undef, undef, undef, undef, undef, undef, undef, undef, undef, undef, undef] ++ [undef, undef, undef, undef, undef, undef, undef, undef, undef, undef, undef, undef]).toArray, []⟩) (by kernel_rfl) ?_
    refine wp_seq ?_
    refine lwp_list ?_
    refine ls_move (x := x0) (by kernel_rfl) (by kernel_rfl) ?_
    refine ls_p (d := some 18) (by kernel_rfl) (by kernel_rfl) (p_sGe (by kernel_rfl) (by kernel_rfl) H) (fun x18 H => ?_)
    refine ls_move (x := x18) (by kernel_rfl) (by kernel_rfl) ?_
    refine ls_and [(), (), ()] (fun K a w => ∃ (D : Nat → Value) (x22 : Value), a = ⟨([x0, x1, x2, undef, undef, undef, (.bool false), x14, undef, undef, undef, undef, undef, x13, x14, x14, x16, x0, x18, x18, (D 0), (D 1), x22, undef, undef, undef, undef, undef, undef, undef, undef, undef, undef, undef, undef, undef, undef, undef, undef, undef, undef, undef, undef, undef, undef, undef, undef, undef, undef, undef] ++ [undef, undef, undef, undef, undef, undef, undef, undef, undef, undef, undef, undef, undef, undef, undef, undef, undef, undef, undef, undef, undef, undef, undef, undef, undef, undef, undef, undef, undef, undef, undef, undef, undef, undef, undef, undef, undef, undef, undef, undef, undef, undef, undef, undef, undef, undef, undef, undef, undef, undef] ++ [undef, undef, undef, undef, undef, undef, undef, undef, undef, undef, undef, undef]).toArray, []⟩ ∧ At w0 w h_1 ∧ K x22) H (fun hb_15 H => ?_) (fun hb_15 H => ?_) ?_
    · refine ls_move (x := x0) (by rw [hb_15]; kernel_rfl) (by kernel_rfl) ?_
      refine ls_p (d := some 21) (by kernel_rfl) (by rw [hb_15]; kernel_rfl) (p_sLe (by kernel_rfl) (by kernel_rfl) H) (fun x21 H => ?_)
      refine ls_pick_t (x := x21) (by kernel_rfl) (by rw [hb_15]; kernel_rfl) (by kernel_rfl) ?_
      refine ls_nil ?_
      refine then_normal ?_
      exact ⟨(fun i => ([x0, x21]).getD i undef), x21, by kernel_rfl, HA_1, H⟩
    · refine ls_skip (d := some 20) (by kernel_rfl) (by rw [hb_15]; kernel_rfl) ?_
      refine ls_skip (d := some 21) (by kernel_rfl) (by rw [hb_15]; kernel_rfl) ?_
      refine ls_pick_f (y := (.bool false)) (by kernel_rfl) (by rw [hb_15]; kernel_rfl) (by kernel_rfl) ?_
      refine ls_nil ?_
      refine then_normal ?_
      exact ⟨(fun i => ([undef, undef]).getD i undef), (.bool false), by kernel_rfl, HA_1, H⟩
    · rintro _ w_2 ⟨D, x22, rfl, HA_2, H⟩
      refine ls_move (x := x22) (by kernel_rfl) (by kernel_rfl) ?_
      refine ls_and [(), (), ()] (fun K a w => ∃ (D_1 : Nat → Value) (x26 : Value), a = ⟨([x0, x1, x2, undef, undef, undef, (.bool false), x14, undef, undef, undef, undef, undef, x13, x14, x14, x16, x0, x18, x18, (D 0), (D 1), x22, x22, (D_1 0), (D_1 1), x26, undef, undef, undef, undef, undef, undef, undef, undef, undef, undef, undef, undef, undef, undef, undef, undef, undef, undef, undef, undef, undef, undef, undef] ++ [undef, undef, undef, undef, undef, undef, undef, undef, undef, undef, undef, undef, undef, undef, undef, undef, undef, undef, undef, undef, undef, undef, undef, undef, undef, undef, undef, undef, undef, undef, undef, undef, undef, undef, undef, undef, undef, undef, undef, undef, undef, undef, undef, undef, undef, undef, undef, undef, undef, undef] ++ [undef, undef, undef, undef, undef, undef, undef, undef, undef, undef, undef, undef]).toArray, []⟩ ∧ At w0 w h_1 ∧ K x26) H (fun hb_14 H => ?_) (fun hb_14 H => ?_) ?_
      · refine ls_move (x := x1) (by rw [hb_14]; kernel_rfl) (by kernel_rfl) ?_
        refine ls_p (d := some 25) (by kernel_rfl) (by rw [hb_14]; kernel_rfl) (p_sGe (by kernel_rfl) (by kernel_rfl) H) (fun x25 H => ?_)
        refine ls_pick_t (x := x25) (by kernel_rfl) (by rw [hb_14]; kernel_rfl) (by kernel_rfl) ?_
        refine ls_nil ?_
        refine then_normal ?_
        exact ⟨(fun i => ([x1, x25]).getD i undef), x25, by kernel_rfl, HA_2, H⟩
      · refine ls_skip (d := some 24) (by kernel_rfl) (by rw [hb_14]; kernel_rfl) ?_
        refine ls_skip (d := some 25) (by kernel_rfl) (by rw [hb_14]; kernel_rfl) ?_
        refine ls_pick_f (y := (.bool false)) (by kernel_rfl) (by rw [hb_14]; kernel_rfl) (by kernel_rfl) ?_
        refine ls_nil ?_
        refine then_normal ?_
        exact ⟨(fun i => ([undef, undef]).getD i undef), (.bool false), by kernel_rfl, HA_2, H⟩
      · rintro _ w_3 ⟨D_1, x26, rfl, HA_3, H⟩
        refine ls_move (x := x26) (by kernel_rfl) (by kernel_rfl) ?_
        refine ls_and [(), (), ()] (fun K a w => ∃ (D_2 : Nat → Value) (x30 : Value), a = ⟨([x0, x1, x2, undef, undef, undef, (.bool false), x14, undef, undef, undef, undef, undef, x13, x14, x14, x16, x0, x18, x18, (D 0), (D 1), x22, x22, (D_1 0), (D_1 1), x26, x26, (D_2 0), (D_2 1), x30, undef, undef, undef, undef, undef, undef, undef, undef, undef, undef, undef, undef, undef, undef, undef, undef, undef, undef, undef] ++ [undef, undef, undef, undef, undef, undef, undef, undef, undef, undef, undef, undef, undef, undef, undef, undef, undef, undef, undef, undef, undef, undef, undef, undef, undef, undef, undef, undef, undef, undef, undef, undef, undef, undef, undef, undef, undef, undef, undef, undef, undef, undef, undef, undef, undef, undef, undef, undef, undef, undef] ++ [undef, undef, undef, undef, undef, undef, undef, undef, undef, undef, undef, undef]).toArray, []⟩ ∧ At w0 w h_1 ∧ K x30) H (fun hb_13 H => ?_) (fun hb_13 H => ?_) ?_
        · refine ls_move (x := x1) (by rw [hb_13]; kernel_rfl) (by kernel_rfl) ?_
          refine ls_p (d := some 29) (by kernel_rfl) (by rw [hb_13]; kernel_rfl) (p_sLe (by kernel_rfl) (by kernel_rfl) H) (fun x29 H => ?_)
          refine ls_pick_t (x := x29) (by kernel_rfl) (by rw [hb_13]; kernel_rfl) (by kernel_rfl) ?_
          refine ls_nil ?_
          refine then_normal ?_
          exact ⟨(fun i => ([x1, x29]).getD i undef), x29, by kernel_rfl, HA_3, H⟩
        · refine ls_skip (d := some 28) (by kernel_rfl) (by rw [hb_13]; kernel_rfl) ?_
          refine ls_skip (d := some 29) (by kernel_rfl) (by rw [hb_13]; kernel_rfl) ?_
          refine ls_pick_f (y := (.bool false)) (by kernel_rfl) (by rw [hb_13]; kernel_rfl) (by kernel_rfl) ?_
          refine ls_nil ?_
          refine then_normal ?_
          exact ⟨(fun i => ([undef, undef]).getD i undef), (.bool false), by kernel_rfl, HA_3, H⟩
        · rintro _ w_4 ⟨D_2, x30, rfl, HA_4, H⟩
          refine ls_assign (x := x30) (by kernel_rfl) (by kernel_rfl) ?_
          refine ls_nil ?_
          refine then_normal ?_
          refine fr_eq (b := ⟨([x0, x1, x2, undef, undef, undef, (.bool false), x14, x30, undef, undef, undef, undef, x13, x14, x14, x16, x0, x18, x18, (D 0), (D 1), x22, x22, (D_1 0), (D_1 1), x26, x26, (D_2 0), (D_2 1), x30, undef, undef, undef, undef, undef, undef, undef, undef, undef, undef, undef, undef, undef, undef, undef, undef, undef, undef, undef] ++ [undef, undef, undef, undef, undef, undef, undef, undef, undef, undef, undef, undef, undef, undef, undef, undef, undef, undef, undef, undef, undef, undef, undef, undef, undef, undef, undef, undef, undef, undef, undef, undef, undef, undef, undef, undef, undef, undef, undef, undef, undef, undef, undef, undef, undef, undef, undef, undef, undef, undef] ++ [undef, undef, undef, undef, undef, undef, undef, undef, undef, undef, undef, undef]).toArray, []⟩) (by kernel_rfl) ?_
          refine wp_seq ?_
          refine lwp_list ?_
          refine ls_move (x := x14) (by kernel_rfl) (by kernel_rfl) ?_
          refine ls_move (x := x0) (by kernel_rfl) (by kernel_rfl) ?_
          refine ls_move (x := x1) (by kernel_rfl) (by kernel_rfl) ?_
          refine ls_d (d := some 35) (by kernel_rfl) (by kernel_rfl) HA_4 (d_call (by kernel_rfl) (by kernel_rfl) H) (fun x35 h_2 w_5 H HA_5 => ?_)
          refine ls_move (x := x35) (by kernel_rfl) (by kernel_rfl) ?_
          refine ls_p (d := some 36) (by kernel_rfl) (by kernel_rfl) (p_tup (by kernel_rfl) H) (fun x36 H => ?_)
          refine ls_fr (b := ⟨([x0, x1, x2, undef, undef, undef, (.bool false), x14, x30, undef, undef, undef, undef, x13, x14, x14, x16, x0, x18, x18, (D 0), (D 1), x22, x22, (D_1 0), (D_1 1), x26, x26, (D_2 0), (D_2 1), x30, x35, x14, x0, x1, x35, x36, undef, undef, undef, undef, undef, undef, undef, undef, undef, undef, undef, undef, undef] ++ [undef, undef, undef, undef, undef, undef, undef, undef, undef, undef, undef, undef, undef, undef, undef, undef, undef, undef, undef, undef, undef, undef, undef, undef, undef, undef, undef, undef, undef, undef, undef, undef, undef, undef, undef, undef, undef, undef, undef, undef, undef, undef, undef, undef, undef, undef, undef, undef, undef, undef] ++ [undef, undef, undef, undef, undef, undef, undef, undef, undef, undef, undef, undef]).toArray, []⟩) (by kernel_rfl) ?_
          refine ls_p (d := some 37) (by kernel_rfl) (by kernel_rfl) (p_tup (by kernel_rfl) H) (fun x37 H => ?_)
          refine ls_assign (x := x36) (by kernel_rfl) (by kernel_rfl) ?_
          refine ls_assign (x := x37) (by kernel_rfl) (by kernel_rfl) ?_
          refine ls_nil ?_
          refine then_normal ?_
          refine fr_eq (b := ⟨([x0, x1, x2, undef, undef, undef, (.bool false), x14, x30, x36, x37, undef, undef, x13, x14, x14, x16, x0, x18, x18, (D 0), (D 1), x22, x22, (D_1 0), (D_1 1), x26, x26, (D_2 0), (D_2 1), x30, x35, x14, x0, x1, x35, x36, x37, undef, undef, undef, undef, undef, undef, undef, undef, undef, undef, undef, undef] ++ [undef, undef, undef, undef, undef, undef, undef, undef, undef, undef, undef, undef, undef, undef, undef, undef, undef, undef, undef, undef, undef, undef, undef, undef, undef, undef, undef, undef, undef, undef, undef, undef, undef, undef, undef, undef, undef, undef, undef, undef, undef, undef, undef, undef, undef, undef, undef, undef, undef, undef] ++ [undef, undef, undef, undef, undef, undef, undef, undef, undef, undef, undef, undef]).toArray, []⟩) (by kernel_rfl) ?_
          refine wp_seq ?_
          refine wp_seq ?_
          refine lwp_list ?_
          refine ls_move (x := x37) (by kernel_rfl) (by kernel_rfl) ?_
          refine ls_p (d := some 39) (by kernel_rfl) (by kernel_rfl) (p_sEq (by kernel_rfl) (by kernel_rfl) H) (fun x39 H => ?_)
          refine ls_move (x := x30) (by kernel_rfl) (by kernel_rfl) ?_
          refine ls_p (d := some 41) (by kernel_rfl) (by kernel_rfl) (p_neqB Try.underlying4 (by kernel_rfl) (by kernel_rfl) H) (fun x41 H => ?_)
          refine ls_move (x := x41) (by kernel_rfl) (by kernel_rfl) ?_
          refine ls_or [(), (), (), (), (), (), (), (), (), ()] (fun K a w => ∃ (D_3 : Nat → Value) (x52 : Value), a = ⟨([x0, x1, x2, undef, undef, undef, (.bool false), x14, x30, x36, x37, undef, undef, x13, x14, x14, x16, x0, x18, x18, (D 0), (D 1), x22, x22, (D_1 0), (D_1 1), x26, x26, (D_2 0), (D_2 1), x30, x35, x14, x0, x1, x35, x36, x37, x37, x39, x30, x41, x41, (D_3 0), (D_3 1), (D_3 2), (D_3 3), (D_3 4), (D_3 5), (D_3 6)] ++ [(D_3 7), (D_3 8), x52, undef, undef, undef, undef, undef, undef, undef, undef, undef, undef, undef, undef, undef, undef, undef, undef, undef, undef, undef, undef, undef, undef, undef, undef, undef, undef, undef, undef, undef, undef, undef, undef, undef, undef, undef, undef, undef, undef, undef, undef, undef, undef, undef, undef, undef, undef, undef] ++ [undef, undef, undef, undef, undef, undef, undef, undef, undef, undef, undef, undef]).toArray, []⟩ ∧ At w0 w h_2 ∧ K x52) H (fun hb_10 H => ?_) (fun hb_10 H => ?_) ?_
          · refine ls_move (x := x30) (by rw [hb_10]; kernel_rfl) (by kernel_rfl) ?_
            refine ls_fr (b := ⟨([x0, x1, x2, undef, undef, undef, (.bool false), x14, x30, x36, x37, undef, undef, x13, x14, x14, x16, x0, x18, x18, (D 0), (D 1), x22, x22, (D_1 0), (D_1 1), x26, x26, (D_2 0), (D_2 1), x30, x35, x14, x0, x1, x35, x36, x37, x37, x39, x30, x41, x41, x30, undef, undef, undef, undef, undef, undef] ++ [undef, undef, undef, undef, undef, undef, undef, undef, undef, undef, undef, undef, undef, undef, undef, undef, undef, undef, undef, undef, undef, undef, undef, undef, undef, undef, undef, undef, undef, undef, undef, undef, undef, undef, undef, undef, undef, undef, undef, undef, undef, undef, undef, undef, undef, undef, undef, undef, undef, undef] ++ [undef, undef, undef, undef, undef, undef, undef, undef, undef, undef, undef, undef]).toArray, []⟩) (by kernel_rfl) ?_
            refine ls_p (d := some 44) (by kernel_rfl) (by rw [hb_10]; kernel_rfl) (p_not (by kernel_rfl) H) (fun x44 H => ?_)
            refine ls_move (x := x44) (by rw [hb_10]; kernel_rfl) (by kernel_rfl) ?_
            refine ls_and [(), (), (), (), (), ()] (fun K a w => ∃ (D_14 : Nat → Value) (x51 : Value), a = ⟨([x0, x1, x2, undef, undef, undef, (.bool false), x14, x30, x36, x37, undef, undef, x13, x14, x14, x16, x0, x18, x18, (D 0), (D 1), x22, x22, (D_1 0), (D_1 1), x26, x26, (D_2 0), (D_2 1), x30, x35, x14, x0, x1, x35, x36, x37, x37, x39, x30, x41, x41, x30, x44, x44, (D_14 0), (D_14 1), (D_14 2), (D_14 3)] ++ [(D_14 4), x51, undef, undef, undef, undef, undef, undef, undef, undef, undef, undef, undef, undef, undef, undef, undef, undef, undef, undef, undef, undef, undef, undef, undef, undef, undef, undef, undef, undef, undef, undef, undef, undef, undef, undef, undef, undef, undef, undef, undef, undef, undef, undef, undef, undef, undef, undef, undef, undef] ++ [undef, undef, undef, undef, undef, undef, undef, undef, undef, undef, undef, undef]).toArray, []⟩ ∧ At w0 w h_2 ∧ K x51) H (fun hb_11 H => ?_) (fun hb_11 H => ?_) ?_
            · refine ls_move (x := x37) (by rw [hb_11]; kernel_rfl) (by kernel_rfl) ?_
              refine ls_p (d := some 47) (by kernel_rfl) (by rw [hb_11]; kernel_rfl) (p_sNe (by kernel_rfl) (by kernel_rfl) H) (fun x47 H => ?_)
              refine ls_move (x := x47) (by rw [hb_11]; kernel_rfl) (by kernel_rfl) ?_
              refine ls_or [(), ()] (fun K a w => ∃ (D_15 : Nat → Value) (x50 : Value), a = ⟨([x0, x1, x2, undef, undef, undef, (.bool false), x14, x30, x36, x37, undef, undef, x13, x14, x14, x16, x0, x18, x18, (D 0), (D 1), x22, x22, (D_1 0), (D_1 1), x26, x26, (D_2 0), (D_2 1), x30, x35, x14, x0, x1, x35, x36, x37, x37, x39, x30, x41, x41, x30, x44, x44, x37, x47, x47, (D_15 0)] ++ [x50, undef, undef, undef, undef, undef, undef, undef, undef, undef, undef, undef, undef, undef, undef, undef, undef, undef, undef, undef, undef, undef, undef, undef, undef, undef, undef, undef, undef, undef, undef, undef, undef, undef, undef, undef, undef, undef, undef, undef, undef, undef, undef, undef, undef, undef, undef, undef, undef, undef] ++ [undef, undef, undef, undef, undef, undef, undef, undef, undef, undef, undef, undef]).toArray, []⟩ ∧ At w0 w h_2 ∧ K x50) H (fun hb_12 H => ?_) (fun hb_12 H => ?_) ?_
              · refine ls_move (x := x36) (by rw [hb_12]; kernel_rfl) (by kernel_rfl) ?_
                refine ls_fr (b := ⟨([x0, x1, x2, undef, undef, undef, (.bool false), x14, x30, x36, x37, undef, undef, x13, x14, x14, x16, x0, x18, x18, (D 0), (D 1), x22, x22, (D_1 0), (D_1 1), x26, x26, (D_2 0), (D_2 1), x30, x35, x14, x0, x1, x35, x36, x37, x37, x39, x30, x41, x41, x30, x44, x44, x37, x47, x47, x36] ++ [undef, undef, undef, undef, undef, undef, undef, undef, undef, undef, undef, undef, undef, undef, undef, undef, undef, undef, undef, undef, undef, undef, undef, undef, undef, undef, undef, undef, undef, undef, undef, undef, undef, undef, undef, undef, undef, undef, undef, undef, undef, undef, undef, undef, undef, undef, undef, undef, undef, undef] ++ [undef, undef, undef, undef, undef, undef, undef, undef, undef, undef, undef, undef]).toArray, []⟩) (by kernel_rfl) ?_
                refine ls_pick_f (y := x36) (by rw [hb_11]; kernel_rfl) (by rw [hb_12]; kernel_rfl) (by kernel_rfl) ?_
                refine ls_nil ?_
                refine then_normal ?_
                exact ⟨(fun i => ([x36]).getD i undef), x36, by kernel_rfl, HA_5, H⟩
              · refine ls_skip (d := some 49) (by kernel_rfl) (by rw [hb_12]; kernel_rfl) ?_
                refine ls_fr (b := ⟨([x0, x1, x2, undef, undef, undef, (.bool false), x14, x30, x36, x37, undef, undef, x13, x14, x14, x16, x0, x18, x18, (D 0), (D 1), x22, x22, (D_1 0), (D_1 1), x26, x26, (D_2 0), (D_2 1), x30, x35, x14, x0, x1, x35, x36, x37, x37, x39, x30, x41, x41, x30, x44, x44, x37, x47, x47, undef] ++ [undef, undef, undef, undef, undef, undef, undef, undef, undef, undef, undef, undef, undef, undef, undef, undef, undef, undef, undef, undef, undef, undef, undef, undef, undef, undef, undef, undef, undef, undef, undef, undef, undef, undef, undef, undef, undef, undef, undef, undef, undef, undef, undef, undef, undef, undef, undef, undef, undef, undef] ++ [undef, undef, undef, undef, undef, undef, undef, undef, undef, undef, undef, undef]).toArray, []⟩) (by kernel_rfl) ?_
                refine ls_pick_t (x := (.bool true)) (by rw [hb_11]; kernel_rfl) (by rw [hb_12]; kernel_rfl) (by kernel_rfl) ?_
                refine ls_nil ?_
                refine then_normal ?_
                exact ⟨(fun i => ([undef]).getD i undef), (.bool true), by kernel_rfl, HA_5, H⟩
              · rintro _ w_22 ⟨D_15, x50, rfl, HA_22, H⟩
                refine ls_pick_t (x := x50) (by rw [hb_10]; kernel_rfl) (by rw [hb_11]; kernel_rfl) (by kernel_rfl) ?_
                refine ls_nil ?_
                refine then_normal ?_
                exact ⟨(fun i => ([x37, x47, x47, (D_15 0), x50]).getD i undef), x50, by kernel_rfl, HA_22, H⟩
            · refine ls_skip (d := some 46) (by kernel_rfl) (by rw [hb_11]; kernel_rfl) ?_
              refine ls_skip (d := some 47) (by kernel_rfl) (by rw [hb_11]; kernel_rfl) ?_
              refine ls_skip (d := some 48) (by kernel_rfl) (by rw [hb_11]; kernel_rfl) ?_
              refine ls_skip (d := some 49) (by kernel_rfl) (by kernel_rfl) ?_
              refine ls_fr (b := ⟨([x0, x1, x2, undef, undef, undef, (.bool false), x14, x30, x36, x37, undef, undef, x13, x14, x14, x16, x0, x18, x18, (D 0), (D 1), x22, x22, (D_1 0), (D_1 1), x26, x26, (D_2 0), (D_2 1), x30, x35, x14, x0, x1, x35, x36, x37, x37, x39, x30, x41, x41, x30, x44, x44, undef, undef, undef, undef] ++ [undef, undef, undef, undef, undef, undef, undef, undef, undef, undef, undef, undef, undef, undef, undef, undef, undef, undef, undef, undef, undef, undef, undef, undef, undef, undef, undef, undef, undef, undef, undef, undef, undef, undef, undef, undef, undef, undef, undef, undef, undef, undef, undef, undef, undef, undef, undef, undef, undef, undef] ++ [undef, undef, undef, undef, undef, undef, undef, undef, undef, undef, undef, undef]).toArray, []⟩) (by kernel_rfl) ?_
              refine ls_skip (d := some 50) (by kernel_rfl) (by rw [hb_11]; kernel_rfl) ?_
              refine ls_pick_f (y := (.bool false)) (by rw [hb_10]; kernel_rfl) (by rw [hb_11]; kernel_rfl) (by kernel_rfl) ?_
              refine ls_nil ?_
              refine then_normal ?_
              exact ⟨(fun i => ([undef, undef, undef, undef, undef]).getD i undef), (.bool false), by kernel_rfl, HA_5, H⟩
            · rintro _ w_21 ⟨D_14, x51, rfl, HA_21, H⟩
              refine ls_pick_f (y := x51) (by kernel_rfl) (by rw [hb_10]; kernel_rfl) (by kernel_rfl) ?_
              refine ls_nil ?_
              refine then_normal ?_
              exact ⟨(fun i => ([x30, x44, x44, (D_14 0), (D_14 1), (D_14 2), (D_14 3), (D_14 4), x51]).getD i undef), x51, by kernel_rfl, HA_21, H⟩
          · refine ls_skip (d := some 43) (by kernel_rfl) (by rw [hb_10]; kernel_rfl) ?_
            refine ls_fr (b := ⟨([x0, x1, x2, undef, undef, undef, (.bool false), x14, x30, x36, x37, undef, undef, x13, x14, x14, x16, x0, x18, x18, (D 0), (D 1), x22, x22, (D_1 0), (D_1 1), x26, x26, (D_2 0), (D_2 1), x30, x35, x14, x0, x1, x35, x36, x37, x37, x39, x30, x41, x41, undef, undef, undef, undef, undef, undef, undef] ++ [undef, undef, undef, undef, undef, undef, undef, undef, undef, undef, undef, undef, undef, undef, undef, undef, undef, undef, undef, undef, undef, undef, undef, undef, undef, undef, undef, undef, undef, undef, undef, undef, undef, undef, undef, undef, undef, undef, undef, undef, undef, undef, undef, undef, undef, undef, undef, undef, undef, undef] ++ [undef, undef, undef, undef, undef, undef, undef, undef, undef, undef, undef, undef]).toArray, []⟩) (by kernel_rfl) ?_
            refine ls_skip (d := some 44) (by kernel_rfl) (by rw [hb_10]; kernel_rfl) ?_
            refine ls_skip (d := some 45) (by kernel_rfl) (by rw [hb_10]; kernel_rfl) ?_
            refine ls_skip (d := some 46) (by kernel_rfl) (by kernel_rfl) ?_
            refine ls_skip (d := some 47) (by kernel_rfl) (by kernel_rfl) ?_
            refine ls_skip (d := some 48) (by kernel_rfl) (by kernel_rfl) ?_
            refine ls_skip (d := some 49) (by kernel_rfl) (by kernel_rfl) ?_
            refine ls_fr (b := ⟨([x0, x1, x2, undef, undef, undef, (.bool false), x14, x30, x36, x37, undef, undef, x13, x14, x14, x16, x0, x18, x18, (D 0), (D 1), x22, x22, (D_1 0), (D_1 1), x26, x26, (D_2 0), (D_2 1), x30, x35, x14, x0, x1, x35, x36, x37, x37, x39, x30, x41, x41, undef, undef, undef, undef, undef, undef, undef] ++ [undef, undef, undef, undef, undef, undef, undef, undef, undef, undef, undef, undef, undef, undef, undef, undef, undef, undef, undef, undef, undef, undef, undef, undef, undef, undef, undef, undef, undef, undef, undef, undef, undef, undef, undef, undef, undef, undef, undef, undef, undef, undef, undef, undef, undef, undef, undef, undef, undef, undef] ++ [undef, undef, undef, undef, undef, undef, undef, undef, undef, undef, undef, undef]).toArray, []⟩) (by kernel_rfl) ?_
            refine ls_skip (d := some 50) (by kernel_rfl) (by kernel_rfl) ?_
            refine ls_skip (d := some 51) (by kernel_rfl) (by rw [hb_10]; kernel_rfl) ?_
            refine ls_pick_t (x := (.bool true)) (by kernel_rfl) (by rw [hb_10]; kernel_rfl) (by kernel_rfl) ?_
            refine ls_nil ?_
            refine then_normal ?_
            exact ⟨(fun i => ([undef, undef, undef, undef, undef, undef, undef, undef, undef]).getD i undef), (.bool true), by kernel_rfl, HA_5, H⟩
          · rintro _ w_6 ⟨D_3, x52, rfl, HA_6, H⟩
            refine ls_move (x := x52) (by kernel_rfl) (by kernel_rfl) ?_
            refine ls_or [(), (), (), (), (), (), (), (), (), (), (), ()] (fun K a w => ∃ (D_4 : Nat → Value) (x65 : Value), a = ⟨([x0, x1, x2, undef, undef, undef, (.bool false), x14, x30, x36, x37, undef, undef, x13, x14, x14, x16, x0, x18, x18, (D 0), (D 1), x22, x22, (D_1 0), (D_1 1), x26, x26, (D_2 0), (D_2 1), x30, x35, x14, x0, x1, x35, x36, x37, x37, x39, x30, x41, x41, (D_3 0), (D_3 1), (D_3 2), (D_3 3), (D_3 4), (D_3 5), (D_3 6)] ++ [(D_3 7), (D_3 8), x52, x52, (D_4 0), (D_4 1), (D_4 2), (D_4 3), (D_4 4), (D_4 5), (D_4 6), (D_4 7), (D_4 8), (D_4 9), (D_4 10), x65, undef, undef, undef, undef, undef, undef, undef, undef, undef, undef, undef, undef, undef, undef, undef, undef, undef, undef, undef, undef, undef, undef, undef, undef, undef, undef, undef, undef, undef, undef, undef, undef, undef, undef] ++ [undef, undef, undef, undef, undef, undef, undef, undef, undef, undef, undef, undef]).toArray, []⟩ ∧ At w0 w h_2 ∧ K x65) H (fun hb_7 H => ?_) (fun hb_7 H => ?_) ?_
            · refine ls_move (x := x30) (by rw [hb_7]; kernel_rfl) (by kernel_rfl) ?_
              refine ls_move (x := x30) (by rw [hb_7]; kernel_rfl) (by kernel_rfl) ?_
              refine ls_and [(), (), (), (), (), (), (), (), ()] (fun K a w => ∃ (D_12 : Nat → Value) (x64 : Value), a = ⟨([x0, x1, x2, undef, undef, undef, (.bool false), x14, x30, x36, x37, undef, undef, x13, x14, x14, x16, x0, x18, x18, (D 0), (D 1), x22, x22, (D_1 0), (D_1 1), x26, x26, (D_2 0), (D_2 1), x30, x35, x14, x0, x1, x35, x36, x37, x37, x39, x30, x41, x41, (D_3 0), (D_3 1), (D_3 2), (D_3 3), (D_3 4), (D_3 5), (D_3 6)] ++ [(D_3 7), (D_3 8), x52, x52, x30, x30, (D_12 0), (D_12 1), (D_12 2), (D_12 3), (D_12 4), (D_12 5), (D_12 6), (D_12 7), x64, undef, undef, undef, undef, undef, undef, undef, undef, undef, undef, undef, undef, undef, undef, undef, undef, undef, undef, undef, undef, undef, undef, undef, undef, undef, undef, undef, undef, undef, undef, undef, undef, undef, undef, undef] ++ [undef, undef, undef, undef, undef, undef, undef, undef, undef, undef, undef, undef]).toArray, []⟩ ∧ At w0 w h_2 ∧ K x64) H (fun hb_8 H => ?_) (fun hb_8 H => ?_) ?_
              · refine ls_move (x := x36) (by rw [hb_8]; kernel_rfl) (by kernel_rfl) ?_
                refine ls_move (x := x0) (by rw [hb_8]; kernel_rfl) (by kernel_rfl) ?_
                refine ls_p (d := some 58) (by kernel_rfl) (by rw [hb_8]; kernel_rfl) (p_sNe (by kernel_rfl) (by kernel_rfl) H) (fun x58 H => ?_)
                refine ls_fr (b := ⟨([x0, x1, x2, undef, undef, undef, (.bool false), x14, x30, x36, x37, undef, undef, x13, x14, x14, x16, x0, x18, x18, (D 0), (D 1), x22, x22, (D_1 0), (D_1 1), x26, x26, (D_2 0), (D_2 1), x30, x35, x14, x0, x1, x35, x36, x37, x37, x39, x30, x41, x41, (D_3 0), (D_3 1), (D_3 2), (D_3 3), (D_3 4), (D_3 5), (D_3 6)] ++ [(D_3 7), (D_3 8), x52, x52, x30, x30, x36, x0, x58, undef, undef, undef, undef, undef, undef, undef, undef, undef, undef, undef, undef, undef, undef, undef, undef, undef, undef, undef, undef, undef, undef, undef, undef, undef, undef, undef, undef, undef, undef, undef, undef, undef, undef, undef, undef, undef, undef, undef, undef, undef] ++ [undef, undef, undef, undef, undef, undef, undef, undef, undef, undef, undef, undef]).toArray, []⟩) (by kernel_rfl) ?_
                refine ls_move (x := x58) (by rw [hb_8]; kernel_rfl) (by kernel_rfl) ?_
                refine ls_or [(), (), ()] (fun K a w => ∃ (D_13 : Nat → Value) (x62 : Value), a = ⟨([x0, x1, x2, undef, undef, undef, (.bool false), x14, x30, x36, x37, undef, undef, x13, x14, x14, x16, x0, x18, x18, (D 0), (D 1), x22, x22, (D_1 0), (D_1 1), x26, x26, (D_2 0), (D_2 1), x30, x35, x14, x0, x1, x35, x36, x37, x37, x39, x30, x41, x41, (D_3 0), (D_3 1), (D_3 2), (D_3 3), (D_3 4), (D_3 5), (D_3 6)] ++ [(D_3 7), (D_3 8), x52, x52, x30, x30, x36, x0, x58, x58, (D_13 0), (D_13 1), x62, undef, undef, undef, undef, undef, undef, undef, undef, undef, undef, undef, undef, undef, undef, undef, undef, undef, undef, undef, undef, undef, undef, undef, undef, undef, undef, undef, undef, undef, undef, undef, undef, undef, undef, undef, undef, undef] ++ [undef, undef, undef, undef, undef, undef, undef, undef, undef, undef, undef, undef]).toArray, []⟩ ∧ At w0 w h_2 ∧ K x62) H (fun hb_9 H => ?_) (fun hb_9 H => ?_) ?_
                · refine ls_move (x := x1) (by rw [hb_9]; kernel_rfl) (by kernel_rfl) ?_
                  refine ls_p (d := some 61) (by kernel_rfl) (by rw [hb_9]; kernel_rfl) (p_sNe (by kernel_rfl) (by kernel_rfl) H) (fun x61 H => ?_)
                  refine ls_pick_f (y := x61) (by rw [hb_8]; kernel_rfl) (by rw [hb_9]; kernel_rfl) (by kernel_rfl) ?_
                  refine ls_nil ?_
                  refine then_normal ?_
                  exact ⟨(fun i => ([x1, x61]).getD i undef), x61, by kernel_rfl, HA_6, H⟩
                · refine ls_skip (d := some 60) (by kernel_rfl) (by rw [hb_9]; kernel_rfl) ?_
                  refine ls_skip (d := some 61) (by kernel_rfl) (by rw [hb_9]; kernel_rfl) ?_
                  refine ls_pick_t (x := (.bool true)) (by rw [hb_8]; kernel_rfl) (by rw [hb_9]; kernel_rfl) (by kernel_rfl) ?_
                  refine ls_nil ?_
                  refine then_normal ?_
                  exact ⟨(fun i => ([undef, undef]).getD i undef), (.bool true), by kernel_rfl, HA_6, H⟩
                · rintro _ w_20 ⟨D_13, x62, rfl, HA_20, H⟩
                  refine ls_p (d := some 63) (by kernel_rfl) (by rw [hb_8]; kernel_rfl) (p_neqB Try.underlying4 (by kernel_rfl) (by kernel_rfl) H) (fun x63 H => ?_)
                  refine ls_pick_t (x := x63) (by rw [hb_7]; kernel_rfl) (by rw [hb_8]; kernel_rfl) (by kernel_rfl) ?_
                  refine ls_nil ?_
                  refine then_normal ?_
                  exact ⟨(fun i => ([x36, x0, x58, x58, (D_13 0), (D_13 1), x62, x63]).getD i undef), x63, by kernel_rfl, HA_20, H⟩
              · refine ls_skip (d := some 56) (by kernel_rfl) (by rw [hb_8]; kernel_rfl) ?_
                refine ls_skip (d := some 57) (by kernel_rfl) (by rw [hb_8]; kernel_rfl) ?_
                refine ls_skip (d := some 58) (by kernel_rfl) (by rw [hb_8]; kernel_rfl) ?_
                refine ls_fr (b := ⟨([x0, x1, x2, undef, undef, undef, (.bool false), x14, x30, x36, x37, undef, undef, x13, x14, x14, x16, x0, x18, x18, (D 0), (D 1), x22, x22, (D_1 0), (D_1 1), x26, x26, (D_2 0), (D_2 1), x30, x35, x14, x0, x1, x35, x36, x37, x37, x39, x30, x41, x41, (D_3 0), (D_3 1), (D_3 2), (D_3 3), (D_3 4), (D_3 5), (D_3 6)] ++ [(D_3 7), (D_3 8), x52, x52, x30, x30, undef, undef, undef, undef, undef, undef, undef, undef, undef, undef, undef, undef, undef, undef, undef, undef, undef, undef, undef, undef, undef, undef, undef, undef, undef, undef, undef, undef, undef, undef, undef, undef, undef, undef, undef, undef, undef, undef, undef, undef, undef, undef, undef, undef] ++ [undef, undef, undef, undef, undef, undef, undef, undef, undef, undef, undef, undef]).toArray, []⟩) (by kernel_rfl) ?_
                refine ls_skip (d := some 59) (by kernel_rfl) (by rw [hb_8]; kernel_rfl) ?_
                refine ls_skip (d := some 60) (by kernel_rfl) (by kernel_rfl) ?_
                refine ls_skip (d := some 61) (by kernel_rfl) (by kernel_rfl) ?_
                refine ls_skip (d := some 62) (by kernel_rfl) (by rw [hb_8]; kernel_rfl) ?_
                refine ls_skip (d := some 63) (by kernel_rfl) (by rw [hb_8]; kernel_rfl) ?_
                refine ls_pick_f (y := (.bool false)) (by rw [hb_7]; kernel_rfl) (by rw [hb_8]; kernel_rfl) (by kernel_rfl) ?_
                refine ls_nil ?_
                refine then_normal ?_
                exact ⟨(fun i => ([undef, undef, undef, undef, undef, undef, undef, undef]).getD i undef), (.bool false), by kernel_rfl, HA_6, H⟩
              · rintro _ w_19 ⟨D_12, x64, rfl, HA_19, H⟩
                refine ls_pick_f (y := x64) (by kernel_rfl) (by rw [hb_7]; kernel_rfl) (by kernel_rfl) ?_
                refine ls_nil ?_
                refine then_normal ?_
                exact ⟨(fun i => ([x30, x30, (D_12 0), (D_12 1), (D_12 2), (D_12 3), (D_12 4), (D_12 5), (D_12 6), (D_12 7), x64]).getD i undef), x64, by kernel_rfl, HA_19, H⟩
            · refine ls_skip (d := some 54) (by kernel_rfl) (by rw [hb_7]; kernel_rfl) ?_
              refine ls_skip (d := some 55) (by kernel_rfl) (by rw [hb_7]; kernel_rfl) ?_
              refine ls_skip (d := some 56) (by kernel_rfl) (by kernel_rfl) ?_
              refine ls_skip (d := some 57) (by kernel_rfl) (by kernel_rfl) ?_
              refine ls_skip (d := some 58) (by kernel_rfl) (by kernel_rfl) ?_
              refine ls_fr (b := ⟨([x0, x1, x2, undef, undef, undef, (.bool false), x14, x30, x36, x37, undef, undef, x13, x14, x14, x16, x0, x18, x18, (D 0), (D 1), x22, x22, (D_1 0), (D_1 1), x26, x26, (D_2 0), (D_2 1), x30, x35, x14, x0, x1, x35, x36, x37, x37, x39, x30, x41, x41, (D_3 0), (D_3 1), (D_3 2), (D_3 3), (D_3 4), (D_3 5), (D_3 6)] ++ [(D_3 7), (D_3 8), x52, x52, undef, undef, undef, undef, undef, undef, undef, undef, undef, undef, undef, undef, undef, undef, undef, undef, undef, undef, undef, undef, undef, undef, undef, undef, undef, undef, undef, undef, undef, undef, undef, undef, undef, undef, undef, undef, undef, undef, undef, undef, undef, undef, undef, undef, undef, undef] ++ [undef, undef, undef, undef, undef, undef, undef, undef, undef, undef, undef, undef]).toArray, []⟩) (by kernel_rfl) ?_
              refine ls_skip (d := some 59) (by kernel_rfl) (by kernel_rfl) ?_
              refine ls_skip (d := some 60) (by kernel_rfl) (by kernel_rfl) ?_
              refine ls_skip (d := some 61) (by kernel_rfl) (by kernel_rfl) ?_
              refine ls_skip (d := some 62) (by kernel_rfl) (by kernel_rfl) ?_
              refine ls_skip (d := some 63) (by kernel_rfl) (by kernel_rfl) ?_
              refine ls_skip (d := some 64) (by kernel_rfl) (by rw [hb_7]; kernel_rfl) ?_
              refine ls_fr (b := ⟨([x0, x1, x2, undef, undef, undef, (.bool false), x14, x30, x36, x37, undef, undef, x13, x14, x14, x16, x0, x18, x18, (D 0), (D 1), x22, x22, (D_1 0), (D_1 1), x26, x26, (D_2 0), (D_2 1), x30, x35, x14, x0, x1, x35, x36, x37, x37, x39, x30, x41, x41, (D_3 0), (D_3 1), (D_3 2), (D_3 3), (D_3 4), (D_3 5), (D_3 6)] ++ [(D_3 7), (D_3 8), x52, x52, undef, undef, undef, undef, undef, undef, undef, undef, undef, undef, undef, undef, undef, undef, undef, undef, undef, undef, undef, undef, undef, undef, undef, undef, undef, undef, undef, undef, undef, undef, undef, undef, undef, undef, undef, undef, undef, undef, undef, undef, undef, undef, undef, undef, undef, undef] ++ [undef, undef, undef, undef, undef, undef, undef, undef, undef, undef, undef, undef]).toArray, []⟩) (by kernel_rfl) ?_
              refine ls_pick_t (x := (.bool true)) (by kernel_rfl) (by rw [hb_7]; kernel_rfl) (by kernel_rfl) ?_
              refine ls_nil ?_
              refine then_normal ?_
              exact ⟨(fun i => ([undef, undef, undef, undef, undef, undef, undef, undef, undef, undef, undef]).getD i undef), (.bool true), by kernel_rfl, HA_6, H⟩
            · rintro _ w_7 ⟨D_4, x65, rfl, HA_7, H⟩
              refine ls_nil ?_
              refine then_normal ?_
              refine fr_eq (b := ⟨([x0, x1, x2, undef, undef, undef, (.bool false), x14, x30, x36, x37, undef, undef, x13, x14, x14, x16, x0, x18, x18, (D 0), (D 1), x22, x22, (D_1 0), (D_1 1), x26, x26, (D_2 0), (D_2 1), x30, x35, x14, x0, x1, x35, x36, x37, x37, x39, x30, x41, x41, (D_3 0), (D_3 1), (D_3 2), (D_3 3), (D_3 4), (D_3 5), (D_3 6)] ++ [(D_3 7), (D_3 8), x52, x52, (D_4 0), (D_4 1), (D_4 2), (D_4 3), (D_4 4), (D_4 5), (D_4 6), (D_4 7), (D_4 8), (D_4 9), (D_4 10), x65, undef, undef, undef, undef, undef, undef, undef, undef, undef, undef, undef, undef, undef, undef, undef, undef, undef, undef, undef, undef, undef, undef, undef, undef, undef, undef, undef, undef, undef, undef, undef, undef, undef, undef] ++ [undef, undef, undef, undef, undef, undef, undef, undef, undef, undef, undef, undef]).toArray, []⟩) (by kernel_rfl) ?_
              refine wp_if rfl H (fun H => ?_) (fun H => ?_)
              · refine wp_seq ?_
                refine lwp_list ?_
                refine ls_assign (x := (.bool false)) (by kernel_rfl) (by kernel_rfl) ?_
                refine ls_nil ?_
                refine then_normal ?_
                refine fr_eq (b := ⟨([x0, x1, x2, undef, undef, undef, (.bool false), x14, x30, x36, x37, undef, undef, x13, x14, x14, x16, x0, x18, x18, (D 0), (D 1), x22, x22, (D_1 0), (D_1 1), x26, x26, (D_2 0), (D_2 1), x30, x35, x14, x0, x1, x35, x36, x37, x37, x39, x30, x41, x41, (D_3 0), (D_3 1), (D_3 2), (D_3 3), (D_3 4), (D_3 5), (D_3 6)] ++ [(D_3 7), (D_3 8), x52, x52, (D_4 0), (D_4 1), (D_4 2), (D_4 3), (D_4 4), (D_4 5), (D_4 6), (D_4 7), (D_4 8), (D_4 9), (D_4 10), x65, undef, undef, undef, undef, undef, undef, undef, undef, undef, undef, undef, undef, undef, undef, undef, undef, undef, undef, undef, undef, undef, undef, undef, undef, undef, undef, undef, undef, undef, undef, undef, undef, undef, undef] ++ [undef, undef, undef, undef, undef, undef, undef, undef, undef, undef, undef, undef]).toArray, []⟩) (by kernel_rfl) ?_
                refine wp_ret ?_
                refine then_ret ?_
                exact end1 (Try.results10) (by kernel_rfl) (by kernel_rfl) HA_7 H _ (.inr rfl)
              · refine wp_skip ?_
                refine then_normal ?_
                refine fr_eq (b := ⟨([x0, x1, x2, undef, undef, undef, (.bool false), x14, x30, x36, x37, undef, undef, x13, x14, x14, x16, x0, x18, x18, (D 0), (D 1), x22, x22, (D_1 0), (D_1 1), x26, x26, (D_2 0), (D_2 1), x30, x35, x14, x0, x1, x35, x36, x37, x37, x39, x30, x41, x41, (D_3 0), (D_3 1), (D_3 2), (D_3 3), (D_3 4), (D_3 5), (D_3 6)] ++ [(D_3 7), (D_3 8), x52, x52, (D_4 0), (D_4 1), (D_4 2), (D_4 3), (D_4 4), (D_4 5), (D_4 6), (D_4 7), (D_4 8), (D_4 9), (D_4 10), x65, undef, undef, undef, undef, undef, undef, undef, undef, undef, undef, undef, undef, undef, undef, undef, undef, undef, undef, undef, undef, undef, undef, undef, undef, undef, undef, undef, undef, undef, undef, undef, undef, undef, undef] ++ [undef, undef, undef, undef, undef, undef, undef, undef, undef, undef, undef, undef]).toArray, []⟩) (by kernel_rfl) ?_
                refine wp_seq ?_
                refine lwp_list ?_
                refine ls_move (x := x14) (by kernel_rfl) (by kernel_rfl) ?_
                refine ls_d (d := some 68) (by kernel_rfl) (by kernel_rfl) HA_7 (d_call (by kernel_rfl) (by kernel_rfl) H) (fun x68 h_3 w_8 H HA_8 => ?_)
                refine ls_move (x := x68) (by kernel_rfl) (by kernel_rfl) ?_
                refine ls_p (d := some 69) (by kernel_rfl) (by kernel_rfl) (p_tup (by kernel_rfl) H) (fun x69 H => ?_)
                refine ls_p (d := some 70) (by kernel_rfl) (by kernel_rfl) (p_tup (by kernel_rfl) H) (fun x70 H => ?_)
                refine ls_assign (x := x69) (by kernel_rfl) (by kernel_rfl) ?_
                refine ls_fr (b := ⟨([x0, x1, x2, undef, undef, undef, (.bool false), x14, x30, x36, x37, x69, undef, x13, x14, x14, x16, x0, x18, x18, (D 0), (D 1), x22, x22, (D_1 0), (D_1 1), x26, x26, (D_2 0), (D_2 1), x30, x35, x14, x0, x1, x35, x36, x37, x37, x39, x30, x41, x41, (D_3 0), (D_3 1), (D_3 2), (D_3 3), (D_3 4), (D_3 5), (D_3 6)] ++ [(D_3 7), (D_3 8), x52, x52, (D_4 0), (D_4 1), (D_4 2), (D_4 3), (D_4 4), (D_4 5), (D_4 6), (D_4 7), (D_4 8), (D_4 9), (D_4 10), x65, x68, x14, x68, x69, x70, undef, undef, undef, undef, undef, undef, undef, undef, undef, undef, undef, undef, undef, undef, undef, undef, undef, undef, undef, undef, undef, undef, undef, undef, undef, undef, undef, undef, undef] ++ [undef, undef, undef, undef, undef, undef, undef, undef, undef, undef, undef, undef]).toArray, []⟩) (by kernel_rfl) ?_
                refine ls_assign (x := x70) (by kernel_rfl) (by kernel_rfl) ?_
                refine ls_nil ?_
                refine then_normal ?_
                refine fr_eq (b := ⟨([x0, x1, x2, undef, undef, undef, (.bool false), x14, x30, x36, x37, x69, x70, x13, x14, x14, x16, x0, x18, x18, (D 0), (D 1), x22, x22, (D_1 0), (D_1 1), x26, x26, (D_2 0), (D_2 1), x30, x35, x14, x0, x1, x35, x36, x37, x37, x39, x30, x41, x41, (D_3 0), (D_3 1), (D_3 2), (D_3 3), (D_3 4), (D_3 5), (D_3 6)] ++ [(D_3 7), (D_3 8), x52, x52, (D_4 0), (D_4 1), (D_4 2), (D_4 3), (D_4 4), (D_4 5), (D_4 6), (D_4 7), (D_4 8), (D_4 9), (D_4 10), x65, x68, x14, x68, x69, x70, undef, undef, undef, undef, undef, undef, undef, undef, undef, undef, undef, undef, undef, undef, undef, undef, undef, undef, undef, undef, undef, undef, undef, undef, undef, undef, undef, undef, undef] ++ [undef, undef, undef, undef, undef, undef, undef, undef, undef, undef, undef, undef]).toArray, []⟩) (by kernel_rfl) ?_
                refine wp_seq ?_
                refine wp_seq ?_
                refine lwp_list ?_
                refine ls_move (x := x30) (by kernel_rfl) (by kernel_rfl) ?_
                refine ls_move (x := x30) (by kernel_rfl) (by kernel_rfl) ?_
                refine ls_and [(), (), (), (), (), (), (), (), ()] (fun K a w => ∃ (D_5 : Nat → Value) (x81 : Value), a = ⟨([x0, x1, x2, undef, undef, undef, (.bool false), x14, x30, x36, x37, x69, x70, x13, x14, x14, x16, x0, x18, x18, (D 0), (D 1), x22, x22, (D_1 0), (D_1 1), x26, x26, (D_2 0), (D_2 1), x30, x35, x14, x0, x1, x35, x36, x37, x37, x39, x30, x41, x41, (D_3 0), (D_3 1), (D_3 2), (D_3 3), (D_3 4), (D_3 5), (D_3 6)] ++ [(D_3 7), (D_3 8), x52, x52, (D_4 0), (D_4 1), (D_4 2), (D_4 3), (D_4 4), (D_4 5), (D_4 6), (D_4 7), (D_4 8), (D_4 9), (D_4 10), x65, x68, x14, x68, x69, x70, x30, x30, (D_5 0), (D_5 1), (D_5 2), (D_5 3), (D_5 4), (D_5 5), (D_5 6), (D_5 7), x81, undef, undef, undef, undef, undef, undef, undef, undef, undef, undef, undef, undef, undef, undef, undef, undef, undef, undef] ++ [undef, undef, undef, undef, undef, undef, undef, undef, undef, undef, undef, undef]).toArray, []⟩ ∧ At w0 w h_3 ∧ K x81) H (fun hb_5 H => ?_) (fun hb_5 H => ?_) ?_
                · refine ls_move (x := x69) (by rw [hb_5]; kernel_rfl) (by kernel_rfl) ?_
                  refine ls_move (x := x0) (by rw [hb_5]; kernel_rfl) (by kernel_rfl) ?_
                  refine ls_p (d := some 75) (by kernel_rfl) (by rw [hb_5]; kernel_rfl) (p_sNe (by kernel_rfl) (by kernel_rfl) H) (fun x75 H => ?_)
                  refine ls_move (x := x75) (by rw [hb_5]; kernel_rfl) (by kernel_rfl) ?_
                  refine ls_fr (b := ⟨([x0, x1, x2, undef, undef, undef, (.bool false), x14, x30, x36, x37, x69, x70, x13, x14, x14, x16, x0, x18, x18, (D 0), (D 1), x22, x22, (D_1 0), (D_1 1), x26, x26, (D_2 0), (D_2 1), x30, x35, x14, x0, x1, x35, x36, x37, x37, x39, x30, x41, x41, (D_3 0), (D_3 1), (D_3 2), (D_3 3), (D_3 4), (D_3 5), (D_3 6)] ++ [(D_3 7), (D_3 8), x52, x52, (D_4 0), (D_4 1), (D_4 2), (D_4 3), (D_4 4), (D_4 5), (D_4 6), (D_4 7), (D_4 8), (D_4 9), (D_4 10), x65, x68, x14, x68, x69, x70, x30, x30, x69, x0, x75, x75, undef, undef, undef, undef, undef, undef, undef, undef, undef, undef, undef, undef, undef, undef, undef, undef, undef, undef, undef, undef, undef, undef, undef] ++ [undef, undef, undef, undef, undef, undef, undef, undef, undef, undef, undef, undef]).toArray, []⟩) (by kernel_rfl) ?_
                  refine ls_or [(), (), (), ()] (fun K a w => ∃ (D_11 : Nat → Value) (x80 : Value), a = ⟨([x0, x1, x2, undef, undef, undef, (.bool false), x14, x30, x36, x37, x69, x70, x13, x14, x14, x16, x0, x18, x18, (D 0), (D 1), x22, x22, (D_1 0), (D_1 1), x26, x26, (D_2 0), (D_2 1), x30, x35, x14, x0, x1, x35, x36, x37, x37, x39, x30, x41, x41, (D_3 0), (D_3 1), (D_3 2), (D_3 3), (D_3 4), (D_3 5), (D_3 6)] ++ [(D_3 7), (D_3 8), x52, x52, (D_4 0), (D_4 1), (D_4 2), (D_4 3), (D_4 4), (D_4 5), (D_4 6), (D_4 7), (D_4 8), (D_4 9), (D_4 10), x65, x68, x14, x68, x69, x70, x30, x30, x69, x0, x75, x75, (D_11 0), (D_11 1), (D_11 2), x80, undef, undef, undef, undef, undef, undef, undef, undef, undef, undef, undef, undef, undef, undef, undef, undef, undef, undef, undef] ++ [undef, undef, undef, undef, undef, undef, undef, undef, undef, undef, undef, undef]).toArray, []⟩ ∧ At w0 w h_3 ∧ K x80) H (fun hb_6 H => ?_) (fun hb_6 H => ?_) ?_
                  · refine ls_move (x := x70) (by rw [hb_6]; kernel_rfl) (by kernel_rfl) ?_
                    refine ls_move (x := x1) (by rw [hb_6]; kernel_rfl) (by kernel_rfl) ?_
                    refine ls_p (d := some 79) (by kernel_rfl) (by rw [hb_6]; kernel_rfl) (p_sNe (by kernel_rfl) (by kernel_rfl) H) (fun x79 H => ?_)
                    refine ls_pick_f (y := x79) (by rw [hb_5]; kernel_rfl) (by rw [hb_6]; kernel_rfl) (by kernel_rfl) ?_
                    refine ls_nil ?_
                    refine then_normal ?_
                    exact ⟨(fun i => ([x70, x1, x79]).getD i undef), x79, by kernel_rfl, HA_8, H⟩
                  · refine ls_skip (d := some 77) (by kernel_rfl) (by rw [hb_6]; kernel_rfl) ?_
                    refine ls_skip (d := some 78) (by kernel_rfl) (by rw [hb_6]; kernel_rfl) ?_
                    refine ls_skip (d := some 79) (by kernel_rfl) (by rw [hb_6]; kernel_rfl) ?_
                    refine ls_pick_t (x := (.bool true)) (by rw [hb_5]; kernel_rfl) (by rw [hb_6]; kernel_rfl) (by kernel_rfl) ?_
                    refine ls_nil ?_
                    refine then_normal ?_
                    exact ⟨(fun i => ([undef, undef, undef]).getD i undef), (.bool true), by kernel_rfl, HA_8, H⟩
                  · rintro _ w_18 ⟨D_11, x80, rfl, HA_18, H⟩
                    refine ls_pick_t (x := x80) (by kernel_rfl) (by rw [hb_5]; kernel_rfl) (by kernel_rfl) ?_
                    refine ls_nil ?_
                    refine then_normal ?_
                    exact ⟨(fun i => ([x69, x0, x75, x75, (D_11 0), (D_11 1), (D_11 2), x80]).getD i undef), x80, by kernel_rfl, HA_18, H⟩
                · refine ls_skip (d := some 73) (by kernel_rfl) (by rw [hb_5]; kernel_rfl) ?_
                  refine ls_skip (d := some 74) (by kernel_rfl) (by rw [hb_5]; kernel_rfl) ?_
                  refine ls_skip (d := some 75) (by kernel_rfl) (by rw [hb_5]; kernel_rfl) ?_
                  refine ls_skip (d := some 76) (by kernel_rfl) (by rw [hb_5]; kernel_rfl) ?_
                  refine ls_fr (b := ⟨([x0, x1, x2, undef, undef, undef, (.bool false), x14, x30, x36, x37, x69, x70, x13, x14, x14, x16, x0, x18, x18, (D 0), (D 1), x22, x22, (D_1 0), (D_1 1), x26, x26, (D_2 0), (D_2 1), x30, x35, x14, x0, x1, x35, x36, x37, x37, x39, x30, x41, x41, (D_3 0), (D_3 1), (D_3 2), (D_3 3), (D_3 4), (D_3 5), (D_3 6)] ++ [(D_3 7), (D_3 8), x52, x52, (D_4 0), (D_4 1), (D_4 2), (D_4 3), (D_4 4), (D_4 5), (D_4 6), (D_4 7), (D_4 8), (D_4 9), (D_4 10), x65, x68, x14, x68, x69, x70, x30, x30, undef, undef, undef, undef, undef, undef, undef, undef, undef, undef, undef, undef, undef, undef, undef, undef, undef, undef, undef, undef, undef, undef, undef, undef, undef, undef, undef] ++ [undef, undef, undef, undef, undef, undef, undef, undef, undef, undef, undef, undef]).toArray, []⟩) (by kernel_rfl) ?_
                  refine ls_skip (d := some 77) (by kernel_rfl) (by kernel_rfl) ?_
                  refine ls_skip (d := some 78) (by kernel_rfl) (by kernel_rfl) ?_
                  refine ls_skip (d := some 79) (by kernel_rfl) (by kernel_rfl) ?_
                  refine ls_skip (d := some 80) (by kernel_rfl) (by rw [hb_5]; kernel_rfl) ?_
                  refine ls_pick_f (y := (.bool false)) (by kernel_rfl) (by rw [hb_5]; kernel_rfl) (by kernel_rfl) ?_
                  refine ls_nil ?_
                  refine then_normal ?_
                  exact ⟨(fun i => ([undef, undef, undef, undef, undef, undef, undef, undef]).getD i undef), (.bool false), by kernel_rfl, HA_8, H⟩
                · rintro _ w_9 ⟨D_5, x81, rfl, HA_9, H⟩
                  refine ls_move (x := x81) (by kernel_rfl) (by kernel_rfl) ?_
                  refine ls_or [(), (), (), (), (), (), (), (), (), (), ()] (fun K a w => ∃ (D_6 : Nat → Value) (x93 : Value), a = ⟨([x0, x1, x2, undef, undef, undef, (.bool false), x14, x30, x36, x37, x69, x70, x13, x14, x14, x16, x0, x18, x18, (D 0), (D 1), x22, x22, (D_1 0), (D_1 1), x26, x26, (D_2 0), (D_2 1), x30, x35, x14, x0, x1, x35, x36, x37, x37, x39, x30, x41, x41, (D_3 0), (D_3 1), (D_3 2), (D_3 3), (D_3 4), (D_3 5), (D_3 6)] ++ [(D_3 7), (D_3 8), x52, x52, (D_4 0), (D_4 1), (D_4 2), (D_4 3), (D_4 4), (D_4 5), (D_4 6), (D_4 7), (D_4 8), (D_4 9), (D_4 10), x65, x68, x14, x68, x69, x70, x30, x30, (D_5 0), (D_5 1), (D_5 2), (D_5 3), (D_5 4), (D_5 5), (D_5 6), (D_5 7), x81, x81, (D_6 0), (D_6 1), (D_6 2), (D_6 3), (D_6 4), (D_6 5), (D_6 6), (D_6 7), (D_6 8), (D_6 9), x93, undef, undef, undef, undef, undef, undef] ++ [undef, undef, undef, undef, undef, undef, undef, undef, undef, undef, undef, undef]).toArray, []⟩ ∧ At w0 w h_3 ∧ K x93) H (fun hb_2 H => ?_) (fun hb_2 H => ?_) ?_
                  · refine ls_move (x := x30) (by rw [hb_2]; kernel_rfl) (by kernel_rfl) ?_
                    refine ls_p (d := some 84) (by kernel_rfl) (by rw [hb_2]; kernel_rfl) (p_not (by kernel_rfl) H) (fun x84 H => ?_)
                    refine ls_move (x := x84) (by rw [hb_2]; kernel_rfl) (by kernel_rfl) ?_
                    refine ls_and [(), (), (), (), (), (), ()] (fun K a w => ∃ (D_9 : Nat → Value) (x92 : Value), a = ⟨([x0, x1, x2, undef, undef, undef, (.bool false), x14, x30, x36, x37, x69, x70, x13, x14, x14, x16, x0, x18, x18, (D 0), (D 1), x22, x22, (D_1 0), (D_1 1), x26, x26, (D_2 0), (D_2 1), x30, x35, x14, x0, x1, x35, x36, x37, x37, x39, x30, x41, x41, (D_3 0), (D_3 1), (D_3 2), (D_3 3), (D_3 4), (D_3 5), (D_3 6)] ++ [(D_3 7), (D_3 8), x52, x52, (D_4 0), (D_4 1), (D_4 2), (D_4 3), (D_4 4), (D_4 5), (D_4 6), (D_4 7), (D_4 8), (D_4 9), (D_4 10), x65, x68, x14, x68, x69, x70, x30, x30, (D_5 0), (D_5 1), (D_5 2), (D_5 3), (D_5 4), (D_5 5), (D_5 6), (D_5 7), x81, x81, x30, x84, x84, (D_9 0), (D_9 1), (D_9 2), (D_9 3), (D_9 4), (D_9 5), x92, undef, undef, undef, undef, undef, undef, undef] ++ [undef, undef, undef, undef, undef, undef, undef, undef, undef, undef, undef, undef]).toArray, []⟩ ∧ At w0 w h_3 ∧ K x92) H (fun hb_3 H => ?_) (fun hb_3 H => ?_) ?_
                    · refine ls_move (x := x69) (by rw [hb_3]; kernel_rfl) (by kernel_rfl) ?_
                      refine ls_p (d := some 87) (by kernel_rfl) (by rw [hb_3]; kernel_rfl) (p_sNe (by kernel_rfl) (by kernel_rfl) H) (fun x87 H => ?_)
                      refine ls_fr (b := ⟨([x0, x1, x2, undef, undef, undef, (.bool false), x14, x30, x36, x37, x69, x70, x13, x14, x14, x16, x0, x18, x18, (D 0), (D 1), x22, x22, (D_1 0), (D_1 1), x26, x26, (D_2 0), (D_2 1), x30, x35, x14, x0, x1, x35, x36, x37, x37, x39, x30, x41, x41, (D_3 0), (D_3 1), (D_3 2), (D_3 3), (D_3 4), (D_3 5), (D_3 6)] ++ [(D_3 7), (D_3 8), x52, x52, (D_4 0), (D_4 1), (D_4 2), (D_4 3), (D_4 4), (D_4 5), (D_4 6), (D_4 7), (D_4 8), (D_4 9), (D_4 10), x65, x68, x14, x68, x69, x70, x30, x30, (D_5 0), (D_5 1), (D_5 2), (D_5 3), (D_5 4), (D_5 5), (D_5 6), (D_5 7), x81, x81, x30, x84, x84, x69, x87, undef, undef, undef, undef, undef, undef, undef, undef, undef, undef, undef, undef] ++ [undef, undef, undef, undef, undef, undef, undef, undef, undef, undef, undef, undef]).toArray, []⟩) (by kernel_rfl) ?_
                      refine ls_move (x := x87) (by rw [hb_3]; kernel_rfl) (by kernel_rfl) ?_
                      refine ls_or [(), (), ()] (fun K a w => ∃ (D_10 : Nat → Value) (x91 : Value), a = ⟨([x0, x1, x2, undef, undef, undef, (.bool false), x14, x30, x36, x37, x69, x70, x13, x14, x14, x16, x0, x18, x18, (D 0), (D 1), x22, x22, (D_1 0), (D_1 1), x26, x26, (D_2 0), (D_2 1), x30, x35, x14, x0, x1, x35, x36, x37, x37, x39, x30, x41, x41, (D_3 0), (D_3 1), (D_3 2), (D_3 3), (D_3 4), (D_3 5), (D_3 6)] ++ [(D_3 7), (D_3 8), x52, x52, (D_4 0), (D_4 1), (D_4 2), (D_4 3), (D_4 4), (D_4 5), (D_4 6), (D_4 7), (D_4 8), (D_4 9), (D_4 10), x65, x68, x14, x68, x69, x70, x30, x30, (D_5 0), (D_5 1), (D_5 2), (D_5 3), (D_5 4), (D_5 5), (D_5 6), (D_5 7), x81, x81, x30, x84, x84, x69, x87, x87, (D_10 0), (D_10 1), x91, undef, undef, undef, undef, undef, undef, undef, undef] ++ [undef, undef, undef, undef, undef, undef, undef, undef, undef, undef, undef, undef]).toArray, []⟩ ∧ At w0 w h_3 ∧ K x91) H (fun hb_4 H => ?_) (fun hb_4 H => ?_) ?_
                      · refine ls_move (x := x70) (by rw [hb_4]; kernel_rfl) (by kernel_rfl) ?_
                        refine ls_p (d := some 90) (by kernel_rfl) (by rw [hb_4]; kernel_rfl) (p_sNe (by kernel_rfl) (by kernel_rfl) H) (fun x90 H => ?_)
                        refine ls_pick_f (y := x90) (by rw [hb_3]; kernel_rfl) (by rw [hb_4]; kernel_rfl) (by kernel_rfl) ?_
                        refine ls_nil ?_
                        refine then_normal ?_
                        exact ⟨(fun i => ([x70, x90]).getD i undef), x90, by kernel_rfl, HA_9, H⟩
                      · refine ls_skip (d := some 89) (by kernel_rfl) (by rw [hb_4]; kernel_rfl) ?_
                        refine ls_skip (d := some 90) (by kernel_rfl) (by rw [hb_4]; kernel_rfl) ?_
                        refine ls_pick_t (x := (.bool true)) (by rw [hb_3]; kernel_rfl) (by rw [hb_4]; kernel_rfl) (by kernel_rfl) ?_
                        refine ls_nil ?_
                        refine then_normal ?_
                        exact ⟨(fun i => ([undef, undef]).getD i undef), (.bool true), by kernel_rfl, HA_9, H⟩
                      · rintro _ w_17 ⟨D_10, x91, rfl, HA_17, H⟩
                        refine ls_pick_t (x := x91) (by rw [hb_2]; kernel_rfl) (by rw [hb_3]; kernel_rfl) (by kernel_rfl) ?_
                        refine ls_nil ?_
                        refine then_normal ?_
                        exact ⟨(fun i => ([x69, x87, x87, (D_10 0), (D_10 1), x91]).getD i undef), x91, by kernel_rfl, HA_17, H⟩
                    · refine ls_skip (d := some 86) (by kernel_rfl) (by rw [hb_3]; kernel_rfl) ?_
                      refine ls_skip (d := some 87) (by kernel_rfl) (by rw [hb_3]; kernel_rfl) ?_
                      refine ls_fr (b := ⟨([x0, x1, x2, undef, undef, undef, (.bool false), x14, x30, x36, x37, x69, x70, x13, x14, x14, x16, x0, x18, x18, (D 0), (D 1), x22, x22, (D_1 0), (D_1 1), x26, x26, (D_2 0), (D_2 1), x30, x35, x14, x0, x1, x35, x36, x37, x37, x39, x30, x41, x41, (D_3 0), (D_3 1), (D_3 2), (D_3 3), (D_3 4), (D_3 5), (D_3 6)] ++ [(D_3 7), (D_3 8), x52, x52, (D_4 0), (D_4 1), (D_4 2), (D_4 3), (D_4 4), (D_4 5), (D_4 6), (D_4 7), (D_4 8), (D_4 9), (D_4 10), x65, x68, x14, x68, x69, x70, x30, x30, (D_5 0), (D_5 1), (D_5 2), (D_5 3), (D_5 4), (D_5 5), (D_5 6), (D_5 7), x81, x81, x30, x84, x84, undef, undef, undef, undef, undef, undef, undef, undef, undef, undef, undef, undef, undef, undef] ++ [undef, undef, undef, undef, undef, undef, undef, undef, undef, undef, undef, undef]).toArray, []⟩) (by kernel_rfl) ?_
                      refine ls_skip (d := some 88) (by kernel_rfl) (by rw [hb_3]; kernel_rfl) ?_
                      refine ls_skip (d := some 89) (by kernel_rfl) (by kernel_rfl) ?_
                      refine ls_skip (d := some 90) (by kernel_rfl) (by kernel_rfl) ?_
                      refine ls_skip (d := some 91) (by kernel_rfl) (by rw [hb_3]; kernel_rfl) ?_
                      refine ls_pick_f (y := (.bool false)) (by rw [hb_2]; kernel_rfl) (by rw [hb_3]; kernel_rfl) (by kernel_rfl) ?_
                      refine ls_nil ?_
                      refine then_normal ?_
                      exact ⟨(fun i => ([undef, undef, undef, undef, undef, undef]).getD i undef), (.bool false), by kernel_rfl, HA_9, H⟩
                    · rintro _ w_16 ⟨D_9, x92, rfl, HA_16, H⟩
                      refine ls_pick_f (y := x92) (by kernel_rfl) (by rw [hb_2]; kernel_rfl) (by kernel_rfl) ?_
                      refine ls_nil ?_
                      refine then_normal ?_
                      exact ⟨(fun i => ([x30, x84, x84, (D_9 0), (D_9 1), (D_9 2), (D_9 3), (D_9 4), (D_9 5), x92]).getD i undef), x92, by kernel_rfl, HA_16, H⟩
                  · refine ls_skip (d := some 83) (by kernel_rfl) (by rw [hb_2]; kernel_rfl) ?_
                    refine ls_skip (d := some 84) (by kernel_rfl) (by rw [hb_2]; kernel_rfl) ?_
                    refine ls_skip (d := some 85) (by kernel_rfl) (by rw [hb_2]; kernel_rfl) ?_
                    refine ls_skip (d := some 86) (by kernel_rfl) (by kernel_rfl) ?_
                    refine ls_skip (d := some 87) (by kernel_rfl) (by kernel_rfl) ?_
                    refine ls_fr (b := ⟨([x0, x1, x2, undef, undef, undef, (.bool false), x14, x30, x36, x37, x69, x70, x13, x14, x14, x16, x0, x18, x18, (D 0), (D 1), x22, x22, (D_1 0), (D_1 1), x26, x26, (D_2 0), (D_2 1), x30, x35, x14, x0, x1, x35, x36, x37, x37, x39, x30, x41, x41, (D_3 0), (D_3 1), (D_3 2), (D_3 3), (D_3 4), (D_3 5), (D_3 6)] ++ [(D_3 7), (D_3 8), x52, x52, (D_4 0), (D_4 1), (D_4 2), (D_4 3), (D_4 4), (D_4 5), (D_4 6), (D_4 7), (D_4 8), (D_4 9), (D_4 10), x65, x68, x14, x68, x69, x70, x30, x30, (D_5 0), (D_5 1), (D_5 2), (D_5 3), (D_5 4), (D_5 5), (D_5 6), (D_5 7), x81, x81, undef, undef, undef, undef, undef, undef, undef, undef, undef, undef, undef, undef, undef, undef, undef, undef, undef] ++ [undef, undef, undef, undef, undef, undef, undef, undef, undef, undef, undef, undef]).toArray, []⟩) (by kernel_rfl) ?_
                    refine ls_skip (d := some 88) (by kernel_rfl) (by kernel_rfl) ?_
                    refine ls_skip (d := some 89) (by kernel_rfl) (by kernel_rfl) ?_
                    refine ls_skip (d := some 90) (by kernel_rfl) (by kernel_rfl) ?_
                    refine ls_skip (d := some 91) (by kernel_rfl) (by kernel_rfl) ?_
                    refine ls_skip (d := some 92) (by kernel_rfl) (by rw [hb_2]; kernel_rfl) ?_
                    refine ls_pick_t (x := (.bool true)) (by kernel_rfl) (by rw [hb_2]; kernel_rfl) (by kernel_rfl) ?_
                    refine ls_nil ?_
                    refine then_normal ?_
                    exact ⟨(fun i => ([undef, undef, undef, undef, undef, undef, undef, undef, undef, undef]).getD i undef), (.bool true), by kernel_rfl, HA_9, H⟩
                  · rintro _ w_10 ⟨D_6, x93, rfl, HA_10, H⟩
                    refine ls_nil ?_
                    refine then_normal ?_
                    refine fr_eq (b := ⟨([x0, x1, x2, undef, undef, undef, (.bool false), x14, x30, x36, x37, x69, x70, x13, x14, x14, x16, x0, x18, x18, (D 0), (D 1), x22, x22, (D_1 0), (D_1 1), x26, x26, (D_2 0), (D_2 1), x30, x35, x14, x0, x1, x35, x36, x37, x37, x39, x30, x41, x41, (D_3 0), (D_3 1), (D_3 2), (D_3 3), (D_3 4), (D_3 5), (D_3 6)] ++ [(D_3 7), (D_3 8), x52, x52, (D_4 0), (D_4 1), (D_4 2), (D_4 3), (D_4 4), (D_4 5), (D_4 6), (D_4 7), (D_4 8), (D_4 9), (D_4 10), x65, x68, x14, x68, x69, x70, x30, x30, (D_5 0), (D_5 1), (D_5 2), (D_5 3), (D_5 4), (D_5 5), (D_5 6), (D_5 7), x81, x81, (D_6 0), (D_6 1), (D_6 2), (D_6 3), (D_6 4), (D_6 5), (D_6 6), (D_6 7), (D_6 8), (D_6 9), x93, undef, undef, undef, undef, undef, undef] ++ [undef, undef, undef, undef, undef, undef, undef, undef, undef, undef, undef, undef]).toArray, []⟩) (by kernel_rfl) ?_
                    refine wp_if rfl H (fun H => ?_) (fun H => ?_)
                    · refine wp_seq ?_
                      refine lwp_list ?_
                      refine ls_assign (x := (.bool false)) (by kernel_rfl) (by kernel_rfl) ?_
                      refine ls_nil ?_
                      refine then_normal ?_
                      refine fr_eq (b := ⟨([x0, x1, x2, undef, undef, undef, (.bool false), x14, x30, x36, x37, x69, x70, x13, x14, x14, x16, x0, x18, x18, (D 0), (D 1), x22, x22, (D_1 0), (D_1 1), x26, x26, (D_2 0), (D_2 1), x30, x35, x14, x0, x1, x35, x36, x37, x37, x39, x30, x41, x41, (D_3 0), (D_3 1), (D_3 2), (D_3 3), (D_3 4), (D_3 5), (D_3 6)] ++ [(D_3 7), (D_3 8), x52, x52, (D_4 0), (D_4 1), (D_4 2), (D_4 3), (D_4 4), (D_4 5), (D_4 6), (D_4 7), (D_4 8), (D_4 9), (D_4 10), x65, x68, x14, x68, x69, x70, x30, x30, (D_5 0), (D_5 1), (D_5 2), (D_5 3), (D_5 4), (D_5 5), (D_5 6), (D_5 7), x81, x81, (D_6 0), (D_6 1), (D_6 2), (D_6 3), (D_6 4), (D_6 5), (D_6 6), (D_6 7), (D_6 8), (D_6 9), x93, undef, undef, undef, undef, undef, undef] ++ [undef, undef, undef, undef, undef, undef, undef, undef, undef, undef, undef, undef]).toArray, []⟩) (by kernel_rfl) ?_
                      refine wp_ret ?_
                      refine then_ret ?_
                      exact end1 (Try.results10) (by kernel_rfl) (by kernel_rfl) HA_10 H _ (.inr rfl)
                    · refine wp_skip ?_
                      refine then_normal ?_
                      refine fr_eq (b := ⟨([x0, x1, x2, undef, undef, undef, (.bool false), x14, x30, x36, x37, x69, x70, x13, x14, x14, x16, x0, x18, x18, (D 0), (D 1), x22, x22, (D_1 0), (D_1 1), x26, x26, (D_2 0), (D_2 1), x30, x35, x14, x0, x1, x35, x36, x37, x37, x39, x30, x41, x41, (D_3 0), (D_3 1), (D_3 2), (D_3 3), (D_3 4), (D_3 5), (D_3 6)] ++ [(D_3 7), (D_3 8), x52, x52, (D_4 0), (D_4 1), (D_4 2), (D_4 3), (D_4 4), (D_4 5), (D_4 6), (D_4 7), (D_4 8), (D_4 9), (D_4 10), x65, x68, x14, x68, x69, x70, x30, x30, (D_5 0), (D_5 1), (D_5 2), (D_5 3), (D_5 4), (D_5 5), (D_5 6), (D_5 7), x81, x81, (D_6 0), (D_6 1), (D_6 2), (D_6 3), (D_6 4), (D_6 5), (D_6 6), (D_6 7), (D_6 8), (D_6 9), x93, undef, undef, undef, undef, undef, undef] ++ [undef, undef, undef, undef, undef, undef, undef, undef, undef, undef, undef, undef]).toArray, []⟩) (by kernel_rfl) ?_
                      refine wp_seq ?_
                      refine wp_seq ?_
                      refine lwp_list ?_
                      refine ls_move (x := x2) (by kernel_rfl) (by kernel_rfl) ?_
                      refine ls_nil ?_
                      refine then_normal ?_
                      refine fr_eq (b := ⟨([x0, x1, x2, undef, undef, undef, (.bool false), x14, x30, x36, x37, x69, x70, x13, x14, x14, x16, x0, x18, x18, (D 0), (D 1), x22, x22, (D_1 0), (D_1 1), x26, x26, (D_2 0), (D_2 1), x30, x35, x14, x0, x1, x35, x36, x37, x37, x39, x30, x41, x41, (D_3 0), (D_3 1), (D_3 2), (D_3 3), (D_3 4), (D_3 5), (D_3 6)] ++ [(D_3 7), (D_3 8), x52, x52, (D_4 0), (D_4 1), (D_4 2), (D_4 3), (D_4 4), (D_4 5), (D_4 6), (D_4 7), (D_4 8), (D_4 9), (D_4 10), x65, x68, x14, x68, x69, x70, x30, x30, (D_5 0), (D_5 1), (D_5 2), (D_5 3), (D_5 4), (D_5 5), (D_5 6), (D_5 7), x81, x81, (D_6 0), (D_6 1), (D_6 2), (D_6 3), (D_6 4), (D_6 5), (D_6 6), (D_6 7), (D_6 8), (D_6 9), x93, x2, undef, undef, undef, undef, undef] ++ [undef, undef, undef, undef, undef, undef, undef, undef, undef, undef, undef, undef]).toArray, []⟩) (by kernel_rfl) ?_
                      refine wp_if rfl H (fun H => ?_) (fun H => ?_)
                      · refine wp_seq ?_
                        refine lwp_list ?_
                        refine ls_move (x := x14) (by kernel_rfl) (by kernel_rfl) ?_
                        refine ls_move (x := x69) (by kernel_rfl) (by kernel_rfl) ?_
                        refine ls_move (x := x70) (by kernel_rfl) (by kernel_rfl) ?_
                        refine ls_d (d := some 99) (by kernel_rfl) (by kernel_rfl) HA_10 (d_call (by kernel_rfl) (by kernel_rfl) H) (fun x99 h_4 w_11 H HA_11 => ?_)
                        refine ls_move (x := x99) (by kernel_rfl) (by kernel_rfl) ?_
                        refine ls_p (d := some 100) (by kernel_rfl) (by kernel_rfl) (p_tup (by kernel_rfl) H) (fun x100 H => ?_)
                        refine ls_fr (b := ⟨([x0, x1, x2, undef, undef, undef, (.bool false), x14, x30, x36, x37, x69, x70, x13, x14, x14, x16, x0, x18, x18, (D 0), (D 1), x22, x22, (D_1 0), (D_1 1), x26, x26, (D_2 0), (D_2 1), x30, x35, x14, x0, x1, x35, x36, x37, x37, x39, x30, x41, x41, (D_3 0), (D_3 1), (D_3 2), (D_3 3), (D_3 4), (D_3 5), (D_3 6)] ++ [(D_3 7), (D_3 8), x52, x52, (D_4 0), (D_4 1), (D_4 2), (D_4 3), (D_4 4), (D_4 5), (D_4 6), (D_4 7), (D_4 8), (D_4 9), (D_4 10), x65, x68, x14, x68, x69, x70, x30, x30, (D_5 0), (D_5 1), (D_5 2), (D_5 3), (D_5 4), (D_5 5), (D_5 6), (D_5 7), x81, x81, (D_6 0), (D_6 1), (D_6 2), (D_6 3), (D_6 4), (D_6 5), (D_6 6), (D_6 7), (D_6 8), (D_6 9), x93, x2, x99, x14, x69, x70, x99] ++ [x100, undef, undef, undef, undef, undef, undef, undef, undef, undef, undef, undef]).toArray, []⟩) (by kernel_rfl) ?_
                        refine ls_p (d := some 101) (by kernel_rfl) (by kernel_rfl) (p_tup (by kernel_rfl) H) (fun x101 H => ?_)
                        refine ls_assign (x := x100) (by kernel_rfl) (by kernel_rfl) ?_
                        refine ls_assign (x := x101) (by kernel_rfl) (by kernel_rfl) ?_
                        refine ls_nil ?_
                        refine then_normal ?_
                        refine fr_eq (b := ⟨([x0, x1, x2, undef, undef, undef, (.bool false), x14, x30, x100, x101, x69, x70, x13, x14, x14, x16, x0, x18, x18, (D 0), (D 1), x22, x22, (D_1 0), (D_1 1), x26, x26, (D_2 0), (D_2 1), x30, x35, x14, x0, x1, x35, x36, x37, x37, x39, x30, x41, x41, (D_3 0), (D_3 1), (D_3 2), (D_3 3), (D_3 4), (D_3 5), (D_3 6)] ++ [(D_3 7), (D_3 8), x52, x52, (D_4 0), (D_4 1), (D_4 2), (D_4 3), (D_4 4), (D_4 5), (D_4 6), (D_4 7), (D_4 8), (D_4 9), (D_4 10), x65, x68, x14, x68, x69, x70, x30, x30, (D_5 0), (D_5 1), (D_5 2), (D_5 3), (D_5 4), (D_5 5), (D_5 6), (D_5 7), x81, x81, (D_6 0), (D_6 1), (D_6 2), (D_6 3), (D_6 4), (D_6 5), (D_6 6), (D_6 7), (D_6 8), (D_6 9), x93, x2, x99, x14, x69, x70, x99] ++ [x100, x101, undef, undef, undef, undef, undef, undef, undef, undef, undef, undef]).toArray, []⟩) (by kernel_rfl) ?_
                        refine wp_seq ?_
                        refine lwp_list ?_
                        refine ls_move (x := x100) (by kernel_rfl) (by kernel_rfl) ?_
                        refine ls_p (d := some 103) (by kernel_rfl) (by kernel_rfl) (p_not (by kernel_rfl) H) (fun x103 H => ?_)
                        refine ls_move (x := x103) (by kernel_rfl) (by kernel_rfl) ?_
                        refine ls_and [(), (), ()] (fun K a w => ∃ (D_7 : Nat → Value) (x107 : Value), a = ⟨([x0, x1, x2, undef, undef, undef, (.bool false), x14, x30, x100, x101, x69, x70, x13, x14, x14, x16, x0, x18, x18, (D 0), (D 1), x22, x22, (D_1 0), (D_1 1), x26, x26, (D_2 0), (D_2 1), x30, x35, x14, x0, x1, x35, x36, x37, x37, x39, x30, x41, x41, (D_3 0), (D_3 1), (D_3 2), (D_3 3), (D_3 4), (D_3 5), (D_3 6)] ++ [(D_3 7), (D_3 8), x52, x52, (D_4 0), (D_4 1), (D_4 2), (D_4 3), (D_4 4), (D_4 5), (D_4 6), (D_4 7), (D_4 8), (D_4 9), (D_4 10), x65, x68, x14, x68, x69, x70, x30, x30, (D_5 0), (D_5 1), (D_5 2), (D_5 3), (D_5 4), (D_5 5), (D_5 6), (D_5 7), x81, x81, (D_6 0), (D_6 1), (D_6 2), (D_6 3), (D_6 4), (D_6 5), (D_6 6), (D_6 7), (D_6 8), (D_6 9), x93, x2, x99, x14, x69, x70, x99] ++ [x100, x101, x100, x103, x103, (D_7 0), (D_7 1), x107, undef, undef, undef, undef]).toArray, []⟩ ∧ At w0 w h_4 ∧ K x107) H (fun hb_1 H => ?_) (fun hb_1 H => ?_) ?_
                        · refine ls_move (x := x101) (by rw [hb_1]; kernel_rfl) (by kernel_rfl) ?_
                          refine ls_p (d := some 106) (by kernel_rfl) (by rw [hb_1]; kernel_rfl) (p_sEq (by kernel_rfl) (by kernel_rfl) H) (fun x106 H => ?_)
                          refine ls_pick_t (x := x106) (by kernel_rfl) (by rw [hb_1]; kernel_rfl) (by kernel_rfl) ?_
                          refine ls_nil ?_
                          refine then_normal ?_
                          exact ⟨(fun i => ([x101, x106]).getD i undef), x106, by kernel_rfl, HA_11, H⟩
                        · refine ls_skip (d := some 105) (by kernel_rfl) (by rw [hb_1]; kernel_rfl) ?_
                          refine ls_skip (d := some 106) (by kernel_rfl) (by rw [hb_1]; kernel_rfl) ?_
                          refine ls_pick_f (y := (.bool false)) (by kernel_rfl) (by rw [hb_1]; kernel_rfl) (by kernel_rfl) ?_
                          refine ls_nil ?_
                          refine then_normal ?_
                          exact ⟨(fun i => ([undef, undef]).getD i undef), (.bool false), by kernel_rfl, HA_11, H⟩
                        · rintro _ w_12 ⟨D_7, x107, rfl, HA_12, H⟩
                          refine ls_move (x := x107) (by kernel_rfl) (by kernel_rfl) ?_
                          refine ls_andh [(), ()] (fun K a w => ∃ (D_8 : Nat → Value) (x110 : Value) (h_5 : Heap), a = ⟨([x0, x1, x2, undef, undef, undef, (.bool false), x14, x30, x100, x101, x69, x70, x13, x14, x14, x16, x0, x18, x18, (D 0), (D 1), x22, x22, (D_1 0), (D_1 1), x26, x26, (D_2 0), (D_2 1), x30, x35, x14, x0, x1, x35, x36, x37, x37, x39, x30, x41, x41, (D_3 0), (D_3 1), (D_3 2), (D_3 3), (D_3 4), (D_3 5), (D_3 6)] ++ [(D_3 7), (D_3 8), x52, x52, (D_4 0), (D_4 1), (D_4 2), (D_4 3), (D_4 4), (D_4 5), (D_4 6), (D_4 7), (D_4 8), (D_4 9), (D_4 10), x65, x68, x14, x68, x69, x70, x30, x30, (D_5 0), (D_5 1), (D_5 2), (D_5 3), (D_5 4), (D_5 5), (D_5 6), (D_5 7), x81, x81, (D_6 0), (D_6 1), (D_6 2), (D_6 3), (D_6 4), (D_6 5), (D_6 6), (D_6 7), (D_6 8), (D_6 9), x93, x2, x99, x14, x69, x70, x99] ++ [x100, x101, x100, x103, x103, (D_7 0), (D_7 1), x107, x107, (D_8 0), x110, undef]).toArray, []⟩ ∧ At w0 w h_5 ∧ K x110 h_5) H (fun hb H => ?_) (fun hb H => ?_) ?_
                          · refine ls_d (d := some 109) (by kernel_rfl) (by rw [hb]; kernel_rfl) HA_12 (d_call (by kernel_rfl) (by kernel_rfl) H) (fun x109 h_6 w_14 H HA_14 => ?_)
                            refine ls_pick_t (x := x109) (by kernel_rfl) (by rw [hb]; kernel_rfl) (by kernel_rfl) ?_
                            refine ls_nil ?_
                            refine then_normal ?_
                            exact ⟨(fun i => ([x109]).getD i undef), x109, h_6, by kernel_rfl, HA_14, H⟩
                          · refine ls_skip (d := some 109) (by kernel_rfl) (by rw [hb]; kernel_rfl) ?_
                            refine ls_pick_f (y := (.bool false)) (by kernel_rfl) (by rw [hb]; kernel_rfl) (by kernel_rfl) ?_
                            refine ls_nil ?_
                            refine then_normal ?_
                            exact ⟨(fun i => ([undef]).getD i undef), (.bool false), h_4, by kernel_rfl, HA_12, H⟩
                          · rintro _ w_13 ⟨D_8, x110, h_5, rfl, HA_13, H⟩
                            refine ls_assign (x := x110) (by kernel_rfl) (by kernel_rfl) ?_
                            refine ls_nil ?_
                            refine then_normal ?_
                            refine fr_eq (b := ⟨([x0, x1, x2, undef, undef, undef, x110, x14, x30, x100, x101, x69, x70, x13, x14, x14, x16, x0, x18, x18, (D 0), (D 1), x22, x22, (D_1 0), (D_1 1), x26, x26, (D_2 0), (D_2 1), x30, x35, x14, x0, x1, x35, x36, x37, x37, x39, x30, x41, x41, (D_3 0), (D_3 1), (D_3 2), (D_3 3), (D_3 4), (D_3 5), (D_3 6)] ++ [(D_3 7), (D_3 8), x52, x52, (D_4 0), (D_4 1), (D_4 2), (D_4 3), (D_4 4), (D_4 5), (D_4 6), (D_4 7), (D_4 8), (D_4 9), (D_4 10), x65, x68, x14, x68, x69, x70, x30, x30, (D_5 0), (D_5 1), (D_5 2), (D_5 3), (D_5 4), (D_5 5), (D_5 6), (D_5 7), x81, x81, (D_6 0), (D_6 1), (D_6 2), (D_6 3), (D_6 4), (D_6 5), (D_6 6), (D_6 7), (D_6 8), (D_6 9), x93, x2, x99, x14, x69, x70, x99] ++ [x100, x101, x100, x103, x103, (D_7 0), (D_7 1), x107, x107, (D_8 0), x110, undef]).toArray, []⟩) (by kernel_rfl) ?_
                            refine wp_ret ?_
                            refine then_ret ?_
                            exact end1 (Try.results10) (by kernel_rfl) (by kernel_rfl) HA_13 H _ (.inr rfl)
                      · refine wp_skip ?_
                        refine then_normal ?_
                        refine fr_eq (b := ⟨([x0, x1, x2, undef, undef, undef, (.bool false), x14, x30, x36, x37, x69, x70, x13, x14, x14, x16, x0, x18, x18, (D 0), (D 1), x22, x22, (D_1 0), (D_1 1), x26, x26, (D_2 0), (D_2 1), x30, x35, x14, x0, x1, x35, x36, x37, x37, x39, x30, x41, x41, (D_3 0), (D_3 1), (D_3 2), (D_3 3), (D_3 4), (D_3 5), (D_3 6)] ++ [(D_3 7), (D_3 8), x52, x52, (D_4 0), (D_4 1), (D_4 2), (D_4 3), (D_4 4), (D_4 5), (D_4 6), (D_4 7), (D_4 8), (D_4 9), (D_4 10), x65, x68, x14, x68, x69, x70, x30, x30, (D_5 0), (D_5 1), (D_5 2), (D_5 3), (D_5 4), (D_5 5), (D_5 6), (D_5 7), x81, x81, (D_6 0), (D_6 1), (D_6 2), (D_6 3), (D_6 4), (D_6 5), (D_6 6), (D_6 7), (D_6 8), (D_6 9), x93, x2, undef, undef, undef, undef, undef] ++ [undef, undef, undef, undef, undef, undef, undef, undef, undef, undef, undef, undef]).toArray, []⟩) (by kernel_rfl) ?_
                        refine wp_seq ?_
                        refine lwp_list ?_
                        refine ls_d (d := some 111) (by kernel_rfl) (by kernel_rfl) HA_10 (d_call (by kernel_rfl) (by kernel_rfl) H) (fun x111 h_7 w_15 H HA_15 => ?_)
                        refine ls_assign (x := x111) (by kernel_rfl) (by kernel_rfl) ?_
                        refine ls_nil ?_
                        refine then_normal ?_
                        refine fr_eq (b := ⟨([x0, x1, x2, undef, undef, undef, x111, x14, x30, x36, x37, x69, x70, x13, x14, x14, x16, x0, x18, x18, (D 0), (D 1), x22, x22, (D_1 0), (D_1 1), x26, x26, (D_2 0), (D_2 1), x30, x35, x14, x0, x1, x35, x36, x37, x37, x39, x30, x41, x41, (D_3 0), (D_3 1), (D_3 2), (D_3 3), (D_3 4), (D_3 5), (D_3 6)] ++ [(D_3 7), (D_3 8), x52, x52, (D_4 0), (D_4 1), (D_4 2), (D_4 3), (D_4 4), (D_4 5), (D_4 6), (D_4 7), (D_4 8), (D_4 9), (D_4 10), x65, x68, x14, x68, x69, x70, x30, x30, (D_5 0), (D_5 1), (D_5 2), (D_5 3), (D_5 4), (D_5 5), (D_5 6), (D_5 7), x81, x81, (D_6 0), (D_6 1), (D_6 2), (D_6 3), (D_6 4), (D_6 5), (D_6 6), (D_6 7), (D_6 8), (D_6 9), x93, x2, undef, undef, undef, undef, undef] ++ [undef, undef, undef, undef, undef, undef, undef, undef, undef, undef, undef, x111]).toArray, []⟩) (by kernel_rfl) ?_
                        refine wp_ret ?_
                        exact end1 (Try.results10) (by kernel_rfl) (by kernel_rfl) HA_15 H _ (.inr rfl)

end Go.Proofs.Ytlcklnbgknhhkaa
