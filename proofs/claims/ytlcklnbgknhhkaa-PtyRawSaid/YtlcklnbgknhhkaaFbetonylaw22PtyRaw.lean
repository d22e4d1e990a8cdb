/- The shallow reading of one function, and that the function does it. Written by a program. -/
import Derived.Test.YtlcklnbgknhhkaaFnC
set_option linter.unusedVariables false
namespace Go.Proofs.Ytlcklnbgknhhkaa
open Go Go.HW

def betonylaw22_PtyRaw_l1 (R : Value → Heap → Prop) (x0 x1 x31 x67 : Value) (next : Value → Value → Value → Heap → Prop) (x14 x15 x16 : Value) (h_4 : Heap) : Prop :=
  sLt x16 (.int .i64 600) fun x69 =>
  sIf x69 (pty_Pair_SlaveRead_c x31 x67 h_4 fun x75 h_5 => 
  sTup x75 0 fun x76 =>
  sTup x75 1 fun x77 =>
  pty_Pair_MasterRead_c x31 x67 h_5 fun x81 h_6 => 
  sTup x81 0 fun x82 =>
  sTup x81 1 fun x83 =>
  sLen x76 fun x85 =>
  sGt x85 x67 fun x87 =>
  sOr x87 (fun k_2 =>
  sLen x82 fun x90 =>
  sGt x90 x67 fun x92 =>
  k_2 x92) fun x93 =>
  sOr x93 (fun k_1 =>
  sEq x77 (.int .i64 12) fun x96 =>
  sLen x14 fun x98 =>
  sLen x0 fun x100 =>
  sEq x98 x100 fun x101 =>
  sNeqB x96 x101 fun x102 =>
  k_1 x102) fun x103 =>
  sOr x103 (fun k =>
  sEq x83 (.int .i64 12) fun x106 =>
  sLen x15 fun x108 =>
  sLen x1 fun x110 =>
  sEq x108 x110 fun x111 =>
  sNeqB x106 x111 fun x112 =>
  k x112) fun x113 =>
  sIf x113 (R (.bool false) h_6) (sApp h_6 x14 x76 #[.int .u8 0] 5 1 fun x116 h_7 => 
  sApp h_7 x15 x82 #[.int .u8 0] 5 1 fun x119 h_8 => 
  sAdd .i64 x16 (.int .i64 1) fun x71 =>
  next x116 x119 x71 h_8)) (betonyref01_Same_c x14 x0 h_4 fun x122 h_9 => 
  sAndH x122 h_9 (fun k_4 =>
  betonyref01_Same_c x15 x1 h_9 fun x126 h_13 => 
  k_4 x126 h_13) fun x127 h_10 =>
  sAndH x127 h_10 (fun k_3 =>
  betonylaw22_awake_c  h_10 fun x129 h_12 => 
  k_3 x129 h_12) fun x130 h_11 =>
  R x130 h_11)
def betonylaw22_PtyRaw_S (x0 x1 x2 : Value) (h : Heap) (R : Value → Heap → Prop) : Prop :=
  sLen x0 fun x22 =>
  sGt x22 (.int .i64 500) fun x23 =>
  sOr x23 (fun k_8 =>
  sLen x1 fun x26 =>
  sGt x26 (.int .i64 500) fun x27 =>
  k_8 x27) fun x28 =>
  sIf x28 (betonylaw22_awake_c  h fun x29 h => 
  R x29 h) (sBuild #[.int .i64 0, .int .i64 0, .int .i64 0, .int .i64 0, .int .i64 0, .int .i64 0, .int .i64 0, .int .i64 0, .int .i64 0, .int .i64 0, .int .i64 0, .int .i64 0, .int .i64 0, .int .i64 0, .int .i64 0, .int .i64 0, .int .i64 0] [(15, 1, (.int .i64 1))] fun x30 =>
  pty_New_c x30 h fun x31 h_1 => 
  sEqlNil x31 fun x33 =>
  sIf x33 (R (.bool false) h_1) (pty_Pair_MasterWrite_c x31 x0 h_1 fun x37 h_2 => 
  sTup x37 0 fun x38 =>
  sTup x37 1 fun x39 =>
  sTup x37 2 fun x40 =>
  pty_Pair_SlaveWrite_c x31 x1 h_2 fun x44 h_3 => 
  sTup x44 0 fun x45 =>
  sTup x44 1 fun x46 =>
  sLen x0 fun x49 =>
  sNe x38 x49 fun x50 =>
  sOr x50 (fun k_7 =>
  sLen x1 fun x54 =>
  sNe x45 x54 fun x55 =>
  k_7 x55) fun x56 =>
  sOr x56 (fun k_6 =>
  sNe x40 (.int .i64 0) fun x59 =>
  k_6 x59) fun x60 =>
  sOr x60 (fun k_5 =>
  sNe x46 (.int .i64 0) fun x63 =>
  k_5 x63) fun x64 =>
  sIf x64 (R (.bool false) h_3) (sConv .i64 x2 fun x66 =>
  sAdd .i64 (.int .i64 1) x66 fun x67 =>
  sLoop (S := Value × Value × Value) (fun nxt s h => betonylaw22_PtyRaw_l1 R x0 x1 x31 x67 (fun x14' x15' x16' h => nxt (x14', x15', x16') h) s.1 s.2.1 s.2.2 h) ((.slice none 0 0), (.slice none 0 0), (.int .i64 0)) h_3)))
set_option maxHeartbeats 4000000 in
set_option maxRecDepth 100000 in
theorem betonylaw22_PtyRaw_runs {x0 x1 x2 : Value} {h : Heap} {R : Value → Heap → Prop} (H : betonylaw22_PtyRaw_S x0 x1 x2 h R) : betonylaw22_PtyRaw_c x0 x1 x2 h R := by
  unfold betonylaw22_PtyRaw_S at H
  refine runs_of (b := ⟨([x0, x1, x2, undef, undef, undef, undef, undef, undef, undef, undef, undef, undef, undef, undef, undef, undef, undef, undef, undef, undef, undef, undef, undef, undef, undef, undef, undef, undef, undef, undef, undef, undef, undef, undef, undef, undef, undef, undef, undef, undef, undef, undef, undef, undef, undef, undef, undef, undef, undef] ++ [undef, undef, undef, undef, undef, undef, undef, undef, undef, undef, undef, undef, undef, undef, undef, undef, undef, undef, undef, undef, undef, undef, undef, undef, undef, undef, undef, undef, undef, undef, undef, undef, undef, undef, undef, undef, undef, undef, undef, undef, undef, undef, undef, undef, undef, undef, undef, undef, undef, undef] ++ [undef, undef, undef, undef, undef, undef, undef, undef, undef, undef, undef, undef, undef, undef, undef, undef, undef, undef, undef, undef, undef, undef, undef, undef, undef, undef, undef, undef, undef, undef, undef]).toArray, []⟩) Try.call11 Try.func11 rfl (by kernel_rfl) (fun w0 HA => ?_)
  refine wp_seq ?_
  refine lwp_list ?_
  refine ls_assign (x := (.bool false)) (by kernel_rfl) (by kernel_rfl) ?_
  refine ls_nil ?_
  refine then_normal ?_
  refine fr_eq (b := ⟨([x0, x1, x2, undef, undef, undef, (.bool false), undef, undef, undef, undef, undef, undef, undef, undef, undef, undef, undef, undef, undef, undef, undef, undef, undef, undef, undef, undef, undef, undef, undef, undef, undef, undef, undef, undef, undef, undef, undef, undef, undef, undef, undef, undef, undef, undef, undef, undef, undef, undef, undef] ++ [undef, undef, undef, undef, undef, undef, undef, undef, undef, undef, undef, undef, undef, undef, undef, undef, undef, undef, undef, undef, undef, undef, undef, undef, undef, undef, undef, undef, undef, undef, undef, undef, undef, undef, undef, undef, undef, undef, undef, undef, undef, undef, undef, undef, undef, undef, undef, undef, undef, undef] ++ [undef, undef, undef, undef, undef, undef, undef, undef, undef, undef, undef, undef, undef, undef, undef, undef, undef, undef, undef, undef, undef, undef, undef, undef, undef, undef, undef, undef, undef, undef, undef]).toArray, []⟩) (by kernel_rfl) ?_
  refine wp_seq ?_
  refine wp_seq ?_
  refine lwp_list ?_
  refine ls_move (x := x0) (by kernel_rfl) (by kernel_rfl) ?_
  refine ls_p (d := some 22) (by kernel_rfl) (by kernel_rfl) (p_len Try.underlying30 (by kernel_rfl) H) (fun x22 H => ?_)
  refine ls_p (d := some 23) (by kernel_rfl) (by kernel_rfl) (p_sGt (by kernel_rfl) (by kernel_rfl) H) (fun x23 H => ?_)
  refine ls_move (x := x23) (by kernel_rfl) (by kernel_rfl) ?_
  refine ls_or [(), (), (), ()] (fun K a w => ∃ (D : Nat → Value) (x28 : Value), a = ⟨([x0, x1, x2, undef, undef, undef, (.bool false), undef, undef, undef, undef, undef, undef, undef, undef, undef, undef, undef, undef, undef, undef, x0, x22, x23, x23, (D 0), (D 1), (D 2), x28, undef, undef, undef, undef, undef, undef, undef, undef, undef, undef, undef, undef, undef, undef, undef, undef, undef, undef, undef, undef, undef] ++ [undef, undef, undef, undef, undef, undef, undef, undef, undef, undef, undef, undef, undef, undef, undef, undef, undef, undef, undef, undef, undef, undef, undef, undef, undef, undef, undef, undef, undef, undef, undef, undef, undef, undef, undef, undef, undef, undef, undef, undef, undef, undef, undef, undef, undef, undef, undef, undef, undef, undef] ++ [undef, undef, undef, undef, undef, undef, undef, undef, undef, undef, undef, undef, undef, undef, undef, undef, undef, undef, undef, undef, undef, undef, undef, undef, undef, undef, undef, undef, undef, undef, undef]).toArray, []⟩ ∧ At w0 w h ∧ K x28) H (fun hb_8 H => ?_) (fun hb_8 H => ?_) ?_
  · refine ls_move (x := x1) (by rw [hb_8]; kernel_rfl) (by kernel_rfl) ?_
    refine ls_p (d := some 26) (by kernel_rfl) (by rw [hb_8]; kernel_rfl) (p_len Try.underlying30 (by kernel_rfl) H) (fun x26 H => ?_)
    refine ls_fr (b := ⟨([x0, x1, x2, undef, undef, undef, (.bool false), undef, undef, undef, undef, undef, undef, undef, undef, undef, undef, undef, undef, undef, undef, x0, x22, x23, x23, x1, x26, undef, undef, undef, undef, undef, undef, undef, undef, undef, undef, undef, undef, undef, undef, undef, undef, undef, undef, undef, undef, undef, undef, undef] ++ [undef, undef, undef, undef, undef, undef, undef, undef, undef, undef, undef, undef, undef, undef, undef, undef, undef, undef, undef, undef, undef, undef, undef, undef, undef, undef, undef, undef, undef, undef, undef, undef, undef, undef, undef, undef, undef, undef, undef, undef, undef, undef, undef, undef, undef, undef, undef, undef, undef, undef] ++ [undef, undef, undef, undef, undef, undef, undef, undef, undef, undef, undef, undef, undef, undef, undef, undef, undef, undef, undef, undef, undef, undef, undef, undef, undef, undef, undef, undef, undef, undef, undef]).toArray, []⟩) (by kernel_rfl) ?_
    refine ls_p (d := some 27) (by kernel_rfl) (by rw [hb_8]; kernel_rfl) (p_sGt (by kernel_rfl) (by kernel_rfl) H) (fun x27 H => ?_)
    refine ls_pick_f (y := x27) (by kernel_rfl) (by rw [hb_8]; kernel_rfl) (by kernel_rfl) ?_
    refine ls_nil ?_
    refine then_normal ?_
    exact ⟨(fun i => ([x1, x26, x27]).getD i undef), x27, by kernel_rfl, HA, H⟩
  · refine ls_skip (d := some 25) (by kernel_rfl) (by rw [hb_8]; kernel_rfl) ?_
    refine ls_skip (d := some 26) (by kernel_rfl) (by rw [hb_8]; kernel_rfl) ?_
    refine ls_fr (b := ⟨([x0, x1, x2, undef, undef, undef, (.bool false), undef, undef, undef, undef, undef, undef, undef, undef, undef, undef, undef, undef, undef, undef, x0, x22, x23, x23, undef, undef, undef, undef, undef, undef, undef, undef, undef, undef, undef, undef, undef, undef, undef, undef, undef, undef, undef, undef, undef, undef, undef, undef, undef] ++ [undef, undef, undef, undef, undef, undef, undef, undef, undef, undef, undef, undef, undef, undef, undef, undef, undef, undef, undef, undef, undef, undef, undef, undef, undef, undef, undef, undef, undef, undef, undef, undef, undef, undef, undef, undef, undef, undef, undef, undef, undef, undef, undef, undef, undef, undef, undef, undef, undef, undef] ++ [undef, undef, undef, undef, undef, undef, undef, undef, undef, undef, undef, undef, undef, undef, undef, undef, undef, undef, undef, undef, undef, undef, undef, undef, undef, undef, undef, undef, undef, undef, undef]).toArray, []⟩) (by kernel_rfl) ?_
    refine ls_skip (d := some 27) (by kernel_rfl) (by rw [hb_8]; kernel_rfl) ?_
    refine ls_pick_t (x := (.bool true)) (by kernel_rfl) (by rw [hb_8]; kernel_rfl) (by kernel_rfl) ?_
    refine ls_nil ?_
    refine then_normal ?_
    exact ⟨(fun i => ([undef, undef, undef]).getD i undef), (.bool true), by kernel_rfl, HA, H⟩
  · rintro _ w ⟨D, x28, rfl, HA, H⟩
    refine ls_nil ?_
    refine then_normal ?_
    refine fr_eq (b := ⟨([x0, x1, x2, undef, undef, undef, (.bool false), undef, undef, undef, undef, undef, undef, undef, undef, undef, undef, undef, undef, undef, undef, x0, x22, x23, x23, (D 0), (D 1), (D 2), x28, undef, undef, undef, undef, undef, undef, undef, undef, undef, undef, undef, undef, undef, undef, undef, undef, undef, undef, undef, undef, undef] ++ [undef, undef, undef, undef, undef, undef, undef, undef, undef, undef, undef, undef, undef, undef, undef, undef, undef, undef, undef, undef, undef, undef, undef, undef, undef, undef, undef, undef, undef, undef, undef, undef, undef, undef, undef, undef, undef, undef, undef, undef, undef, undef, undef, undef, undef, undef, undef, undef, undef, undef] ++ [undef, undef, undef, undef, undef, undef, undef, undef, undef, undef, undef, undef, undef, undef, undef, undef, undef, undef, undef, undef, undef, undef, undef, undef, undef, undef, undef, undef, undef, undef, undef]).toArray, []⟩) (by kernel_rfl) ?_
    refine wp_if rfl H (fun H => ?_) (fun H => ?_)
    · refine wp_seq ?_
      refine lwp_list ?_
      refine ls_d (d := some 29) (by kernel_rfl) (by kernel_rfl) HA (d_call (by kernel_rfl) (by kernel_rfl) H) (fun x29 h w_1 H HA_1 => ?_)
      refine ls_assign (x := x29) (by kernel_rfl) (by kernel_rfl) ?_
      refine ls_nil ?_
      refine then_normal ?_
      refine fr_eq (b := ⟨([x0, x1, x2, undef, undef, undef, x29, undef, undef, undef, undef, undef, undef, undef, undef, undef, undef, undef, undef, undef, undef, x0, x22, x23, x23, (D 0), (D 1), (D 2), x28, x29, undef, undef, undef, undef, undef, undef, undef, undef, undef, undef, undef, undef, undef, undef, undef, undef, undef, undef, undef, undef] ++ [undef, undef, undef, undef, undef, undef, undef, undef, undef, undef, undef, undef, undef, undef, undef, undef, undef, undef, undef, undef, undef, undef, undef, undef, undef, undef, undef, undef, undef, undef, undef, undef, undef, undef, undef, undef, undef, undef, undef, undef, undef, undef, undef, undef, undef, undef, undef, undef, undef, undef] ++ [undef, undef, undef, undef, undef, undef, undef, undef, undef, undef, undef, undef, undef, undef, undef, undef, undef, undef, undef, undef, undef, undef, undef, undef, undef, undef, undef, undef, undef, undef, undef]).toArray, []⟩) (by kernel_rfl) ?_
      refine wp_ret ?_
      refine then_ret ?_
      exact end1 (Try.results11) (by kernel_rfl) (by kernel_rfl) HA_1 H _ (.inr rfl)
    · refine wp_skip ?_
      refine then_normal ?_
      refine fr_eq (b := ⟨([x0, x1, x2, undef, undef, undef, (.bool false), undef, undef, undef, undef, undef, undef, undef, undef, undef, undef, undef, undef, undef, undef, x0, x22, x23, x23, (D 0), (D 1), (D 2), x28, undef, undef, undef, undef, undef, undef, undef, undef, undef, undef, undef, undef, undef, undef, undef, undef, undef, undef, undef, undef, undef] ++ [undef, undef, undef, undef, undef, undef, undef, undef, undef, undef, undef, undef, undef, undef, undef, undef, undef, undef, undef, undef, undef, undef, undef, undef, undef, undef, undef, undef, undef, undef, undef, undef, undef, undef, undef, undef, undef, undef, undef, undef, undef, undef, undef, undef, undef, undef, undef, undef, undef, undef] ++ [undef, undef, undef, undef, undef, undef, undef, undef, undef, undef, undef, undef, undef, undef, undef, undef, undef, undef, undef, undef, undef, undef, undef, undef, undef, undef, undef, undef, undef, undef, undef]).toArray, []⟩) (by kernel_rfl) ?_
      refine wp_seq ?_
      refine lwp_list ?_
      refine ls_p (d := some 30) (by kernel_rfl) (by kernel_rfl) (p_lit (pl := [(0, 1), (1, 1), (2, 1), (3, 12), (15, 1), (16, 1)]) Try.zeroValue28 Try.underlying28 ⟨(by kernel_rfl), Try.sizeOf3, (by kernel_rfl), Try.sizeOf3, (by kernel_rfl), Try.sizeOf3, (by kernel_rfl), Try.sizeOf26, (by kernel_rfl), Try.sizeOf3, (by kernel_rfl), Try.sizeOf3, trivial⟩ (by kernel_rfl) (by kernel_rfl) H) (fun x30 H => ?_)
      refine ls_d (d := some 31) (by kernel_rfl) (by kernel_rfl) HA (d_call (by kernel_rfl) (by kernel_rfl) H) (fun x31 h_1 w_2 H HA_2 => ?_)
      refine ls_assign (x := x31) (by kernel_rfl) (by kernel_rfl) ?_
      refine ls_nil ?_
      refine then_normal ?_
      refine fr_eq (b := ⟨([x0, x1, x2, undef, undef, undef, (.bool false), x31, undef, undef, undef, undef, undef, undef, undef, undef, undef, undef, undef, undef, undef, x0, x22, x23, x23, (D 0), (D 1), (D 2), x28, undef, x30, x31, undef, undef, undef, undef, undef, undef, undef, undef, undef, undef, undef, undef, undef, undef, undef, undef, undef, undef] ++ [undef, undef, undef, undef, undef, undef, undef, undef, undef, undef, undef, undef, undef, undef, undef, undef, undef, undef, undef, undef, undef, undef, undef, undef, undef, undef, undef, undef, undef, undef, undef, undef, undef, undef, undef, undef, undef, undef, undef, undef, undef, undef, undef, undef, undef, undef, undef, undef, undef, undef] ++ [undef, undef, undef, undef, undef, undef, undef, undef, undef, undef, undef, undef, undef, undef, undef, undef, undef, undef, undef, undef, undef, undef, undef, undef, undef, undef, undef, undef, undef, undef, undef]).toArray, []⟩) (by kernel_rfl) ?_
      refine wp_seq ?_
      refine wp_seq ?_
      refine lwp_list ?_
      refine ls_move (x := x31) (by kernel_rfl) (by kernel_rfl) ?_
      refine ls_p (d := some 33) (by kernel_rfl) (by kernel_rfl) (p_eqlNil Try.underlying54 (by kernel_rfl) (by kernel_rfl) H) (fun x33 H => ?_)
      refine ls_nil ?_
      refine then_normal ?_
      refine fr_eq (b := ⟨([x0, x1, x2, undef, undef, undef, (.bool false), x31, undef, undef, undef, undef, undef, undef, undef, undef, undef, undef, undef, undef, undef, x0, x22, x23, x23, (D 0), (D 1), (D 2), x28, undef, x30, x31, x31, x33, undef, undef, undef, undef, undef, undef, undef, undef, undef, undef, undef, undef, undef, undef, undef, undef] ++ [undef, undef, undef, undef, undef, undef, undef, undef, undef, undef, undef, undef, undef, undef, undef, undef, undef, undef, undef, undef, undef, undef, undef, undef, undef, undef, undef, undef, undef, undef, undef, undef, undef, undef, undef, undef, undef, undef, undef, undef, undef, undef, undef, undef, undef, undef, undef, undef, undef, undef] ++ [undef, undef, undef, undef, undef, undef, undef, undef, undef, undef, undef, undef, undef, undef, undef, undef, undef, undef, undef, undef, undef, undef, undef, undef, undef, undef, undef, undef, undef, undef, undef]).toArray, []⟩) (by kernel_rfl) ?_
      refine wp_if rfl H (fun H => ?_) (fun H => ?_)
      · refine wp_seq ?_
        refine lwp_list ?_
        refine ls_assign (x := (.bool false)) (by kernel_rfl) (by kernel_rfl) ?_
        refine ls_nil ?_
        refine then_normal ?_
        refine fr_eq (b := ⟨([x0, x1, x2, undef, undef, undef, (.bool false), x31, undef, undef, undef, undef, undef, undef, undef, undef, undef, undef, undef, undef, undef, x0, x22, x23, x23, (D 0), (D 1), (D 2), x28, undef, x30, x31, x31, x33, undef, undef, undef, undef, undef, undef, undef, undef, undef, undef, undef, undef, undef, undef, undef, undef] ++ [undef, undef, undef, undef, undef, undef, undef, undef, undef, undef, undef, undef, undef, undef, undef, undef, undef, undef, undef, undef, undef, undef, undef, undef, undef, undef, undef, undef, undef, undef, undef, undef, undef, undef, undef, undef, undef, undef, undef, undef, undef, undef, undef, undef, undef, undef, undef, undef, undef, undef] ++ [undef, undef, undef, undef, undef, undef, undef, undef, undef, undef, undef, undef, undef, undef, undef, undef, undef, undef, undef, undef, undef, undef, undef, undef, undef, undef, undef, undef, undef, undef, undef]).toArray, []⟩) (by kernel_rfl) ?_
        refine wp_ret ?_
        refine then_ret ?_
        exact end1 (Try.results11) (by kernel_rfl) (by kernel_rfl) HA_2 H _ (.inr rfl)
      · refine wp_skip ?_
        refine then_normal ?_
        refine fr_eq (b := ⟨([x0, x1, x2, undef, undef, undef, (.bool false), x31, undef, undef, undef, undef, undef, undef, undef, undef, undef, undef, undef, undef, undef, x0, x22, x23, x23, (D 0), (D 1), (D 2), x28, undef, x30, x31, x31, x33, undef, undef, undef, undef, undef, undef, undef, undef, undef, undef, undef, undef, undef, undef, undef, undef] ++ [undef, undef, undef, undef, undef, undef, undef, undef, undef, undef, undef, undef, undef, undef, undef, undef, undef, undef, undef, undef, undef, undef, undef, undef, undef, undef, undef, undef, undef, undef, undef, undef, undef, undef, undef, undef, undef, undef, undef, undef, undef, undef, undef, undef, undef, undef, undef, undef, undef, undef] ++ [undef, undef, undef, undef, undef, undef, undef, undef, undef, undef, undef, undef, undef, undef, undef, undef, undef, undef, undef, undef, undef, undef, undef, undef, undef, undef, undef, undef, undef, undef, undef]).toArray, []⟩) (by kernel_rfl) ?_
        refine wp_seq ?_
        refine lwp_list ?_
        refine ls_move (x := x31) (by kernel_rfl) (by kernel_rfl) ?_
        refine ls_move (x := x0) (by kernel_rfl) (by kernel_rfl) ?_
        refine ls_d (d := some 37) (by kernel_rfl) (by kernel_rfl) HA_2 (d_call (by kernel_rfl) (by kernel_rfl) H) (fun x37 h_2 w_3 H HA_3 => ?_)
        refine ls_move (x := x37) (by kernel_rfl) (by kernel_rfl) ?_
        refine ls_p (d := some 38) (by kernel_rfl) (by kernel_rfl) (p_tup (by kernel_rfl) H) (fun x38 H => ?_)
        refine ls_p (d := some 39) (by kernel_rfl) (by kernel_rfl) (p_tup (by kernel_rfl) H) (fun x39 H => ?_)
        refine ls_fr (b := ⟨([x0, x1, x2, undef, undef, undef, (.bool false), x31, undef, undef, undef, undef, undef, undef, undef, undef, undef, undef, undef, undef, undef, x0, x22, x23, x23, (D 0), (D 1), (D 2), x28, undef, x30, x31, x31, x33, x37, x31, x0, x37, x38, x39, undef, undef, undef, undef, undef, undef, undef, undef, undef, undef] ++ [undef, undef, undef, undef, undef, undef, undef, undef, undef, undef, undef, undef, undef, undef, undef, undef, undef, undef, undef, undef, undef, undef, undef, undef, undef, undef, undef, undef, undef, undef, undef, undef, undef, undef, undef, undef, undef, undef, undef, undef, undef, undef, undef, undef, undef, undef, undef, undef, undef, undef] ++ [undef, undef, undef, undef, undef, undef, undef, undef, undef, undef, undef, undef, undef, undef, undef, undef, undef, undef, undef, undef, undef, undef, undef, undef, undef, undef, undef, undef, undef, undef, undef]).toArray, []⟩) (by kernel_rfl) ?_
        refine ls_p (d := some 40) (by kernel_rfl) (by kernel_rfl) (p_tup (by kernel_rfl) H) (fun x40 H => ?_)
        refine ls_assign (x := x38) (by kernel_rfl) (by kernel_rfl) ?_
        refine ls_assign (x := x39) (by kernel_rfl) (by kernel_rfl) ?_
        refine ls_assign (x := x40) (by kernel_rfl) (by kernel_rfl) ?_
        refine ls_nil ?_
        refine then_normal ?_
        refine fr_eq (b := ⟨([x0, x1, x2, undef, undef, undef, (.bool false), x31, x38, x39, x40, undef, undef, undef, undef, undef, undef, undef, undef, undef, undef, x0, x22, x23, x23, (D 0), (D 1), (D 2), x28, undef, x30, x31, x31, x33, x37, x31, x0, x37, x38, x39, x40, undef, undef, undef, undef, undef, undef, undef, undef, undef] ++ [undef, undef, undef, undef, undef, undef, undef, undef, undef, undef, undef, undef, undef, undef, undef, undef, undef, undef, undef, undef, undef, undef, undef, undef, undef, undef, undef, undef, undef, undef, undef, undef, undef, undef, undef, undef, undef, undef, undef, undef, undef, undef, undef, undef, undef, undef, undef, undef, undef, undef] ++ [undef, undef, undef, undef, undef, undef, undef, undef, undef, undef, undef, undef, undef, undef, undef, undef, undef, undef, undef, undef, undef, undef, undef, undef, undef, undef, undef, undef, undef, undef, undef]).toArray, []⟩) (by kernel_rfl) ?_
        refine wp_seq ?_
        refine lwp_list ?_
        refine ls_move (x := x31) (by kernel_rfl) (by kernel_rfl) ?_
        refine ls_move (x := x1) (by kernel_rfl) (by kernel_rfl) ?_
        refine ls_d (d := some 44) (by kernel_rfl) (by kernel_rfl) HA_3 (d_call (by kernel_rfl) (by kernel_rfl) H) (fun x44 h_3 w_4 H HA_4 => ?_)
        refine ls_move (x := x44) (by kernel_rfl) (by kernel_rfl) ?_
        refine ls_p (d := some 45) (by kernel_rfl) (by kernel_rfl) (p_tup (by kernel_rfl) H) (fun x45 H => ?_)
        refine ls_p (d := some 46) (by kernel_rfl) (by kernel_rfl) (p_tup (by kernel_rfl) H) (fun x46 H => ?_)
        refine ls_fr (b := ⟨([x0, x1, x2, undef, undef, undef, (.bool false), x31, x38, x39, x40, undef, undef, undef, undef, undef, undef, undef, undef, undef, undef, x0, x22, x23, x23, (D 0), (D 1), (D 2), x28, undef, x30, x31, x31, x33, x37, x31, x0, x37, x38, x39, x40, x44, x31, x1, x44, x45, x46, undef, undef, undef] ++ [undef, undef, undef, undef, undef, undef, undef, undef, undef, undef, undef, undef, undef, undef, undef, undef, undef, undef, undef, undef, undef, undef, undef, undef, undef, undef, undef, undef, undef, undef, undef, undef, undef, undef, undef, undef, undef, undef, undef, undef, undef, undef, undef, undef, undef, undef, undef, undef, undef, undef] ++ [undef, undef, undef, undef, undef, undef, undef, undef, undef, undef, undef, undef, undef, undef, undef, undef, undef, undef, undef, undef, undef, undef, undef, undef, undef, undef, undef, undef, undef, undef, undef]).toArray, []⟩) (by kernel_rfl) ?_
        refine ls_assign (x := x45) (by kernel_rfl) (by kernel_rfl) ?_
        refine ls_assign (x := x46) (by kernel_rfl) (by kernel_rfl) ?_
        refine ls_nil ?_
        refine then_normal ?_
        refine fr_eq (b := ⟨([x0, x1, x2, undef, undef, undef, (.bool false), x31, x38, x39, x40, x45, x46, undef, undef, undef, undef, undef, undef, undef, undef, x0, x22, x23, x23, (D 0), (D 1), (D 2), x28, undef, x30, x31, x31, x33, x37, x31, x0, x37, x38, x39, x40, x44, x31, x1, x44, x45, x46, undef, undef, undef] ++ [undef, undef, undef, undef, undef, undef, undef, undef, undef, undef, undef, undef, undef, undef, undef, undef, undef, undef, undef, undef, undef, undef, undef, undef, undef, undef, undef, undef, undef, undef, undef, undef, undef, undef, undef, undef, undef, undef, undef, undef, undef, undef, undef, undef, undef, undef, undef, undef, undef, undef] ++ [undef, undef, undef, undef, undef, undef, undef, undef, undef, undef, undef, undef, undef, undef, undef, undef, undef, undef, undef, undef, undef, undef, undef, undef, undef, undef, undef, undef, undef, undef, undef]).toArray, []⟩) (by kernel_rfl) ?_
        refine wp_seq ?_
        refine wp_seq ?_
        refine lwp_list ?_
        refine ls_move (x := x38) (by kernel_rfl) (by kernel_rfl) ?_
        refine ls_move (x := x0) (by kernel_rfl) (by kernel_rfl) ?_
        refine ls_p (d := some 49) (by kernel_rfl) (by kernel_rfl) (p_len Try.underlying30 (by kernel_rfl) H) (fun x49 H => ?_)
        refine ls_p (d := some 50) (by kernel_rfl) (by kernel_rfl) (p_sNe (by kernel_rfl) (by kernel_rfl) H) (fun x50 H => ?_)
        refine ls_move (x := x50) (by kernel_rfl) (by kernel_rfl) ?_
        refine ls_or [(), (), (), (), ()] (fun K a w => ∃ (D_1 : Nat → Value) (x56 : Value), a = ⟨([x0, x1, x2, undef, undef, undef, (.bool false), x31, x38, x39, x40, x45, x46, undef, undef, undef, undef, undef, undef, undef, undef, x0, x22, x23, x23, (D 0), (D 1), (D 2), x28, undef, x30, x31, x31, x33, x37, x31, x0, x37, x38, x39, x40, x44, x31, x1, x44, x45, x46, x38, x0, x49] ++ [x50, x50, (D_1 0), (D_1 1), (D_1 2), (D_1 3), x56, undef, undef, undef, undef, undef, undef, undef, undef, undef, undef, undef, undef, undef, undef, undef, undef, undef, undef, undef, undef, undef, undef, undef, undef, undef, undef, undef, undef, undef, undef, undef, undef, undef, undef, undef, undef, undef, undef, undef, undef, undef, undef, undef] ++ [undef, undef, undef, undef, undef, undef, undef, undef, undef, undef, undef, undef, undef, undef, undef, undef, undef, undef, undef, undef, undef, undef, undef, undef, undef, undef, undef, undef, undef, undef, undef]).toArray, []⟩ ∧ At w0 w h_3 ∧ K x56) H (fun hb_7 H => ?_) (fun hb_7 H => ?_) ?_
        · refine ls_move (x := x45) (by rw [hb_7]; kernel_rfl) (by kernel_rfl) ?_
          refine ls_fr (b := ⟨([x0, x1, x2, undef, undef, undef, (.bool false), x31, x38, x39, x40, x45, x46, undef, undef, undef, undef, undef, undef, undef, undef, x0, x22, x23, x23, (D 0), (D 1), (D 2), x28, undef, x30, x31, x31, x33, x37, x31, x0, x37, x38, x39, x40, x44, x31, x1, x44, x45, x46, x38, x0, x49] ++ [x50, x50, x45, undef, undef, undef, undef, undef, undef, undef, undef, undef, undef, undef, undef, undef, undef, undef, undef, undef, undef, undef, undef, undef, undef, undef, undef, undef, undef, undef, undef, undef, undef, undef, undef, undef, undef, undef, undef, undef, undef, undef, undef, undef, undef, undef, undef, undef, undef, undef] ++ [undef, undef, undef, undef, undef, undef, undef, undef, undef, undef, undef, undef, undef, undef, undef, undef, undef, undef, undef, undef, undef, undef, undef, undef, undef, undef, undef, undef, undef, undef, undef]).toArray, []⟩) (by kernel_rfl) ?_
          refine ls_move (x := x1) (by rw [hb_7]; kernel_rfl) (by kernel_rfl) ?_
          refine ls_p (d := some 54) (by kernel_rfl) (by rw [hb_7]; kernel_rfl) (p_len Try.underlying30 (by kernel_rfl) H) (fun x54 H => ?_)
          refine ls_p (d := some 55) (by kernel_rfl) (by rw [hb_7]; kernel_rfl) (p_sNe (by kernel_rfl) (by kernel_rfl) H) (fun x55 H => ?_)
          refine ls_pick_f (y := x55) (by kernel_rfl) (by rw [hb_7]; kernel_rfl) (by kernel_rfl) ?_
          refine ls_nil ?_
          refine then_normal ?_
          exact ⟨(fun i => ([x45, x1, x54, x55]).getD i undef), x55, by kernel_rfl, HA_4, H⟩
        · refine ls_skip (d := some 52) (by kernel_rfl) (by rw [hb_7]; kernel_rfl) ?_
          refine ls_fr (b := ⟨([x0, x1, x2, undef, undef, undef, (.bool false), x31, x38, x39, x40, x45, x46, undef, undef, undef, undef, undef, undef, undef, undef, x0, x22, x23, x23, (D 0), (D 1), (D 2), x28, undef, x30, x31, x31, x33, x37, x31, x0, x37, x38, x39, x40, x44, x31, x1, x44, x45, x46, x38, x0, x49] ++ [x50, x50, undef, undef, undef, undef, undef, undef, undef, undef, undef, undef, undef, undef, undef, undef, undef, undef, undef, undef, undef, undef, undef, undef, undef, undef, undef, undef, undef, undef, undef, undef, undef, undef, undef, undef, undef, undef, undef, undef, undef, undef, undef, undef, undef, undef, undef, undef, undef, undef] ++ [undef, undef, undef, undef, undef, undef, undef, undef, undef, undef, undef, undef, undef, undef, undef, undef, undef, undef, undef, undef, undef, undef, undef, undef, undef, undef, undef, undef, undef, undef, undef]).toArray, []⟩) (by kernel_rfl) ?_
          refine ls_skip (d := some 53) (by kernel_rfl) (by rw [hb_7]; kernel_rfl) ?_
          refine ls_skip (d := some 54) (by kernel_rfl) (by rw [hb_7]; kernel_rfl) ?_
          refine ls_skip (d := some 55) (by kernel_rfl) (by rw [hb_7]; kernel_rfl) ?_
          refine ls_pick_t (x := (.bool true)) (by kernel_rfl) (by rw [hb_7]; kernel_rfl) (by kernel_rfl) ?_
          refine ls_nil ?_
          refine then_normal ?_
          exact ⟨(fun i => ([undef, undef, undef, undef]).getD i undef), (.bool true), by kernel_rfl, HA_4, H⟩
        · rintro _ w_5 ⟨D_1, x56, rfl, HA_5, H⟩
          refine ls_move (x := x56) (by kernel_rfl) (by kernel_rfl) ?_
          refine ls_or [(), (), ()] (fun K a w => ∃ (D_2 : Nat → Value) (x60 : Value), a = ⟨([x0, x1, x2, undef, undef, undef, (.bool false), x31, x38, x39, x40, x45, x46, undef, undef, undef, undef, undef, undef, undef, undef, x0, x22, x23, x23, (D 0), (D 1), (D 2), x28, undef, x30, x31, x31, x33, x37, x31, x0, x37, x38, x39, x40, x44, x31, x1, x44, x45, x46, x38, x0, x49] ++ [x50, x50, (D_1 0), (D_1 1), (D_1 2), (D_1 3), x56, x56, (D_2 0), (D_2 1), x60, undef, undef, undef, undef, undef, undef, undef, undef, undef, undef, undef, undef, undef, undef, undef, undef, undef, undef, undef, undef, undef, undef, undef, undef, undef, undef, undef, undef, undef, undef, undef, undef, undef, undef, undef, undef, undef, undef, undef] ++ [undef, undef, undef, undef, undef, undef, undef, undef, undef, undef, undef, undef, undef, undef, undef, undef, undef, undef, undef, undef, undef, undef, undef, undef, undef, undef, undef, undef, undef, undef, undef]).toArray, []⟩ ∧ At w0 w h_3 ∧ K x60) H (fun hb_6 H => ?_) (fun hb_6 H => ?_) ?_
          · refine ls_move (x := x40) (by rw [hb_6]; kernel_rfl) (by kernel_rfl) ?_
            refine ls_p (d := some 59) (by kernel_rfl) (by rw [hb_6]; kernel_rfl) (p_sNe (by kernel_rfl) (by kernel_rfl) H) (fun x59 H => ?_)
            refine ls_pick_f (y := x59) (by kernel_rfl) (by rw [hb_6]; kernel_rfl) (by kernel_rfl) ?_
            refine ls_nil ?_
            refine then_normal ?_
            exact ⟨(fun i => ([x40, x59]).getD i undef), x59, by kernel_rfl, HA_5, H⟩
          · refine ls_skip (d := some 58) (by kernel_rfl) (by rw [hb_6]; kernel_rfl) ?_
            refine ls_skip (d := some 59) (by kernel_rfl) (by rw [hb_6]; kernel_rfl) ?_
            refine ls_pick_t (x := (.bool true)) (by kernel_rfl) (by rw [hb_6]; kernel_rfl) (by kernel_rfl) ?_
            refine ls_nil ?_
            refine then_normal ?_
            exact ⟨(fun i => ([undef, undef]).getD i undef), (.bool true), by kernel_rfl, HA_5, H⟩
          · rintro _ w_6 ⟨D_2, x60, rfl, HA_6, H⟩
            refine ls_move (x := x60) (by kernel_rfl) (by kernel_rfl) ?_
            refine ls_or [(), (), ()] (fun K a w => ∃ (D_3 : Nat → Value) (x64 : Value), a = ⟨([x0, x1, x2, undef, undef, undef, (.bool false), x31, x38, x39, x40, x45, x46, undef, undef, undef, undef, undef, undef, undef, undef, x0, x22, x23, x23, (D 0), (D 1), (D 2), x28, undef, x30, x31, x31, x33, x37, x31, x0, x37, x38, x39, x40, x44, x31, x1, x44, x45, x46, x38, x0, x49] ++ [x50, x50, (D_1 0), (D_1 1), (D_1 2), (D_1 3), x56, x56, (D_2 0), (D_2 1), x60, x60, (D_3 0), (D_3 1), x64, undef, undef, undef, undef, undef, undef, undef, undef, undef, undef, undef, undef, undef, undef, undef, undef, undef, undef, undef, undef, undef, undef, undef, undef, undef, undef, undef, undef, undef, undef, undef, undef, undef, undef, undef] ++ [undef, undef, undef, undef, undef, undef, undef, undef, undef, undef, undef, undef, undef, undef, undef, undef, undef, undef, undef, undef, undef, undef, undef, undef, undef, undef, undef, undef, undef, undef, undef]).toArray, []⟩ ∧ At w0 w h_3 ∧ K x64) H (fun hb_5 H => ?_) (fun hb_5 H => ?_) ?_
            · refine ls_move (x := x46) (by rw [hb_5]; kernel_rfl) (by kernel_rfl) ?_
              refine ls_p (d := some 63) (by kernel_rfl) (by rw [hb_5]; kernel_rfl) (p_sNe (by kernel_rfl) (by kernel_rfl) H) (fun x63 H => ?_)
              refine ls_pick_f (y := x63) (by kernel_rfl) (by rw [hb_5]; kernel_rfl) (by kernel_rfl) ?_
              refine ls_nil ?_
              refine then_normal ?_
              exact ⟨(fun i => ([x46, x63]).getD i undef), x63, by kernel_rfl, HA_6, H⟩
            · refine ls_skip (d := some 62) (by kernel_rfl) (by rw [hb_5]; kernel_rfl) ?_
              refine ls_skip (d := some 63) (by kernel_rfl) (by rw [hb_5]; kernel_rfl) ?_
              refine ls_pick_t (x := (.bool true)) (by kernel_rfl) (by rw [hb_5]; kernel_rfl) (by kernel_rfl) ?_
              refine ls_nil ?_
              refine then_normal ?_
              exact ⟨(fun i => ([undef, undef]).getD i undef), (.bool true), by kernel_rfl, HA_6, H⟩
            · rintro _ w_7 ⟨D_3, x64, rfl, HA_7, H⟩
              refine ls_nil ?_
              refine then_normal ?_
              refine fr_eq (b := ⟨([x0, x1, x2, undef, undef, undef, (.bool false), x31, x38, x39, x40, x45, x46, undef, undef, undef, undef, undef, undef, undef, undef, x0, x22, x23, x23, (D 0), (D 1), (D 2), x28, undef, x30, x31, x31, x33, x37, x31, x0, x37, x38, x39, x40, x44, x31, x1, x44, x45, x46, x38, x0, x49] ++ [x50, x50, (D_1 0), (D_1 1), (D_1 2), (D_1 3), x56, x56, (D_2 0), (D_2 1), x60, x60, (D_3 0), (D_3 1), x64, undef, undef, undef, undef, undef, undef, undef, undef, undef, undef, undef, undef, undef, undef, undef, undef, undef, undef, undef, undef, undef, undef, undef, undef, undef, undef, undef, undef, undef, undef, undef, undef, undef, undef, undef] ++ [undef, undef, undef, undef, undef, undef, undef, undef, undef, undef, undef, undef, undef, undef, undef, undef, undef, undef, undef, undef, undef, undef, undef, undef, undef, undef, undef, undef, undef, undef, undef]).toArray, []⟩) (by kernel_rfl) ?_
              refine wp_if rfl H (fun H => ?_) (fun H => ?_)
              · refine wp_seq ?_
                refine lwp_list ?_
                refine ls_assign (x := (.bool false)) (by kernel_rfl) (by kernel_rfl) ?_
                refine ls_nil ?_
                refine then_normal ?_
                refine fr_eq (b := ⟨([x0, x1, x2, undef, undef, undef, (.bool false), x31, x38, x39, x40, x45, x46, undef, undef, undef, undef, undef, undef, undef, undef, x0, x22, x23, x23, (D 0), (D 1), (D 2), x28, undef, x30, x31, x31, x33, x37, x31, x0, x37, x38, x39, x40, x44, x31, x1, x44, x45, x46, x38, x0, x49] ++ [x50, x50, (D_1 0), (D_1 1), (D_1 2), (D_1 3), x56, x56, (D_2 0), (D_2 1), x60, x60, (D_3 0), (D_3 1), x64, undef, undef, undef, undef, undef, undef, undef, undef, undef, undef, undef, undef, undef, undef, undef, undef, undef, undef, undef, undef, undef, undef, undef, undef, undef, undef, undef, undef, undef, undef, undef, undef, undef, undef, undef] ++ [undef, undef, undef, undef, undef, undef, undef, undef, undef, undef, undef, undef, undef, undef, undef, undef, undef, undef, undef, undef, undef, undef, undef, undef, undef, undef, undef, undef, undef, undef, undef]).toArray, []⟩) (by kernel_rfl) ?_
                refine wp_ret ?_
                refine then_ret ?_
                exact end1 (Try.results11) (by kernel_rfl) (by kernel_rfl) HA_7 H _ (.inr rfl)
              · refine wp_skip ?_
                refine then_normal ?_
                refine fr_eq (b := ⟨([x0, x1, x2, undef, undef, undef, (.bool false), x31, x38, x39, x40, x45, x46, undef, undef, undef, undef, undef, undef, undef, undef, x0, x22, x23, x23, (D 0), (D 1), (D 2), x28, undef, x30, x31, x31, x33, x37, x31, x0, x37, x38, x39, x40, x44, x31, x1, x44, x45, x46, x38, x0, x49] ++ [x50, x50, (D_1 0), (D_1 1), (D_1 2), (D_1 3), x56, x56, (D_2 0), (D_2 1), x60, x60, (D_3 0), (D_3 1), x64, undef, undef, undef, undef, undef, undef, undef, undef, undef, undef, undef, undef, undef, undef, undef, undef, undef, undef, undef, undef, undef, undef, undef, undef, undef, undef, undef, undef, undef, undef, undef, undef, undef, undef, undef] ++ [undef, undef, undef, undef, undef, undef, undef, undef, undef, undef, undef, undef, undef, undef, undef, undef, undef, undef, undef, undef, undef, undef, undef, undef, undef, undef, undef, undef, undef, undef, undef]).toArray, []⟩) (by kernel_rfl) ?_
                refine wp_seq ?_
                refine lwp_list ?_
                refine ls_move (x := x2) (by kernel_rfl) (by kernel_rfl) ?_
                refine ls_p (d := some 66) (by kernel_rfl) (by kernel_rfl) (p_conv Try.underlying5 Try.underlying3 (by kernel_rfl) H) (fun x66 H => ?_)
                refine ls_p (d := some 67) (by kernel_rfl) (by kernel_rfl) (p_add (by kernel_rfl) (by kernel_rfl) H) (fun x67 H => ?_)
                refine ls_assign (x := x67) (by kernel_rfl) (by kernel_rfl) ?_
                refine ls_nil ?_
                refine then_normal ?_
                refine fr_eq (b := ⟨([x0, x1, x2, undef, undef, undef, (.bool false), x31, x38, x39, x40, x45, x46, x67, undef, undef, undef, undef, undef, undef, undef, x0, x22, x23, x23, (D 0), (D 1), (D 2), x28, undef, x30, x31, x31, x33, x37, x31, x0, x37, x38, x39, x40, x44, x31, x1, x44, x45, x46, x38, x0, x49] ++ [x50, x50, (D_1 0), (D_1 1), (D_1 2), (D_1 3), x56, x56, (D_2 0), (D_2 1), x60, x60, (D_3 0), (D_3 1), x64, x2, x66, x67, undef, undef, undef, undef, undef, undef, undef, undef, undef, undef, undef, undef, undef, undef, undef, undef, undef, undef, undef, undef, undef, undef, undef, undef, undef, undef, undef, undef, undef, undef, undef, undef] ++ [undef, undef, undef, undef, undef, undef, undef, undef, undef, undef, undef, undef, undef, undef, undef, undef, undef, undef, undef, undef, undef, undef, undef, undef, undef, undef, undef, undef, undef, undef, undef]).toArray, []⟩) (by kernel_rfl) ?_
                refine wp_seq ?_
                refine lwp_list ?_
                refine ls_assign (x := (.slice none 0 0)) (by kernel_rfl) (by kernel_rfl) ?_
                refine ls_assign (x := (.slice none 0 0)) (by kernel_rfl) (by kernel_rfl) ?_
                refine ls_nil ?_
                refine then_normal ?_
                refine fr_eq (b := ⟨([x0, x1, x2, undef, undef, undef, (.bool false), x31, x38, x39, x40, x45, x46, x67, (.slice none 0 0), (.slice none 0 0), undef, undef, undef, undef, undef, x0, x22, x23, x23, (D 0), (D 1), (D 2), x28, undef, x30, x31, x31, x33, x37, x31, x0, x37, x38, x39, x40, x44, x31, x1, x44, x45, x46, x38, x0, x49] ++ [x50, x50, (D_1 0), (D_1 1), (D_1 2), (D_1 3), x56, x56, (D_2 0), (D_2 1), x60, x60, (D_3 0), (D_3 1), x64, x2, x66, x67, undef, undef, undef, undef, undef, undef, undef, undef, undef, undef, undef, undef, undef, undef, undef, undef, undef, undef, undef, undef, undef, undef, undef, undef, undef, undef, undef, undef, undef, undef, undef, undef] ++ [undef, undef, undef, undef, undef, undef, undef, undef, undef, undef, undef, undef, undef, undef, undef, undef, undef, undef, undef, undef, undef, undef, undef, undef, undef, undef, undef, undef, undef, undef, undef]).toArray, []⟩) (by kernel_rfl) ?_
                refine wp_seq ?_
                refine wp_seq ?_
                refine lwp_list ?_
                refine ls_assign (x := (.int .i64 0)) (by kernel_rfl) (by kernel_rfl) ?_
                refine ls_nil ?_
                refine then_normal ?_
                refine fr_eq (b := ⟨([x0, x1, x2, undef, undef, undef, (.bool false), x31, x38, x39, x40, x45, x46, x67, (.slice none 0 0), (.slice none 0 0), (.int .i64 0), undef, undef, undef, undef, x0, x22, x23, x23, (D 0), (D 1), (D 2), x28, undef, x30, x31, x31, x33, x37, x31, x0, x37, x38, x39, x40, x44, x31, x1, x44, x45, x46, x38, x0, x49] ++ [x50, x50, (D_1 0), (D_1 1), (D_1 2), (D_1 3), x56, x56, (D_2 0), (D_2 1), x60, x60, (D_3 0), (D_3 1), x64, x2, x66, x67, undef, undef, undef, undef, undef, undef, undef, undef, undef, undef, undef, undef, undef, undef, undef, undef, undef, undef, undef, undef, undef, undef, undef, undef, undef, undef, undef, undef, undef, undef, undef, undef] ++ [undef, undef, undef, undef, undef, undef, undef, undef, undef, undef, undef, undef, undef, undef, undef, undef, undef, undef, undef, undef, undef, undef, undef, undef, undef, undef, undef, undef, undef, undef, undef]).toArray, []⟩) (by kernel_rfl) ?_
                refine wp_block ?_
                obtain ⟨I, m, H0, HB⟩ := H
                refine wp_loop (fun a w => ∃ (D_4 : Nat → Value) (x14 x15 x16 : Value) (h_4 : Heap), a = ⟨([x0, x1, x2, undef, undef, undef, (D_4 0), x31, x38, x39, x40, x45, x46, x67, x14, x15, x16, (D_4 1), (D_4 2), (D_4 3), (D_4 4), x0, x22, x23, x23, (D 0), (D 1), (D 2), x28, undef, x30, x31, x31, x33, x37, x31, x0, x37, x38, x39, x40, x44, x31, x1, x44, x45, x46, x38, x0, x49] ++ [x50, x50, (D_1 0), (D_1 1), (D_1 2), (D_1 3), x56, x56, (D_2 0), (D_2 1), x60, x60, (D_3 0), (D_3 1), x64, x2, x66, x67, (D_4 5), (D_4 6), (D_4 7), (D_4 8), (D_4 9), (D_4 10), (D_4 11), (D_4 12), (D_4 13), (D_4 14), (D_4 15), (D_4 16), (D_4 17), (D_4 18), (D_4 19), (D_4 20), (D_4 21), (D_4 22), (D_4 23), (D_4 24), (D_4 25), (D_4 26), (D_4 27), (D_4 28), (D_4 29), (D_4 30), (D_4 31), (D_4 32), (D_4 33), (D_4 34), (D_4 35), (D_4 36)] ++ [(D_4 37), (D_4 38), (D_4 39), (D_4 40), (D_4 41), (D_4 42), (D_4 43), (D_4 44), (D_4 45), (D_4 46), (D_4 47), (D_4 48), (D_4 49), (D_4 50), (D_4 51), (D_4 52), (D_4 53), (D_4 54), (D_4 55), (D_4 56), undef, undef, undef, undef, undef, undef, undef, undef, undef, undef, undef]).toArray, []⟩ ∧ At w0 w h_4 ∧ I (x14, x15, x16) h_4) (fun a w => m ((a.tmps.getD 14 undef), (a.tmps.getD 15 undef), (a.tmps.getD 16 undef)) w.heap) ?_ ?_
                · exact ⟨(fun i => ([(.bool false), undef, undef, undef, undef, undef, undef, undef, undef, undef, undef, undef, undef, undef, undef, undef, undef, undef, undef, undef, undef, undef, undef, undef, undef, undef, undef, undef, undef, undef, undef, undef, undef, undef, undef, undef, undef, undef, undef, undef, undef, undef, undef, undef, undef, undef, undef, undef, undef, undef] ++ [undef, undef, undef, undef, undef, undef, undef]).getD i undef), (.slice none 0 0), (.slice none 0 0), (.int .i64 0), h_3, by kernel_rfl, HA_7, H0⟩
                · rintro _ w_8 ⟨D_4, x14, x15, x16, h_4, rfl, HA_8, HI⟩
                  have H : betonylaw22_PtyRaw_l1 R x0 x1 x31 x67 (fun x14' x15' x16' h' => I (x14', x15', x16') h' ∧ m (x14', x15', x16') h' < m (x14, x15, x16) h_4) x14 x15 x16 h_4 := HB (x14, x15, x16) h_4 HI
                  clear HB H0 HI
                  unfold betonylaw22_PtyRaw_l1 at H
                  refine wp_seq ?_
                  refine wp_seq ?_
                  refine lwp_list ?_
                  refine ls_move (x := x16) (by kernel_rfl) (by kernel_rfl) ?_
                  refine ls_p (d := some 69) (by kernel_rfl) (by kernel_rfl) (p_sLt (by kernel_rfl) (by kernel_rfl) H) (fun x69 H => ?_)
                  refine ls_nil ?_
                  refine then_normal ?_
                  refine fr_eq (b := ⟨([x0, x1, x2, undef, undef, undef, (D_4 0), x31, x38, x39, x40, x45, x46, x67, x14, x15, x16, (D_4 1), (D_4 2), (D_4 3), (D_4 4), x0, x22, x23, x23, (D 0), (D 1), (D 2), x28, undef, x30, x31, x31, x33, x37, x31, x0, x37, x38, x39, x40, x44, x31, x1, x44, x45, x46, x38, x0, x49] ++ [x50, x50, (D_1 0), (D_1 1), (D_1 2), (D_1 3), x56, x56, (D_2 0), (D_2 1), x60, x60, (D_3 0), (D_3 1), x64, x2, x66, x67, x16, x69, (D_4 7), (D_4 8), (D_4 9), (D_4 10), (D_4 11), (D_4 12), (D_4 13), (D_4 14), (D_4 15), (D_4 16), (D_4 17), (D_4 18), (D_4 19), (D_4 20), (D_4 21), (D_4 22), (D_4 23), (D_4 24), (D_4 25), (D_4 26), (D_4 27), (D_4 28), (D_4 29), (D_4 30), (D_4 31), (D_4 32), (D_4 33), (D_4 34), (D_4 35), (D_4 36)] ++ [(D_4 37), (D_4 38), (D_4 39), (D_4 40), (D_4 41), (D_4 42), (D_4 43), (D_4 44), (D_4 45), (D_4 46), (D_4 47), (D_4 48), (D_4 49), (D_4 50), (D_4 51), (D_4 52), (D_4 53), (D_4 54), (D_4 55), (D_4 56), undef, undef, undef, undef, undef, undef, undef, undef, undef, undef, undef]).toArray, []⟩) (by kernel_rfl) ?_
                  refine wp_if rfl H (fun H => ?_) (fun H => ?_)
                  · refine wp_skip ?_
                    refine then_normal ?_
                    refine fr_eq (b := ⟨([x0, x1, x2, undef, undef, undef, (D_4 0), x31, x38, x39, x40, x45, x46, x67, x14, x15, x16, (D_4 1), (D_4 2), (D_4 3), (D_4 4), x0, x22, x23, x23, (D 0), (D 1), (D 2), x28, undef, x30, x31, x31, x33, x37, x31, x0, x37, x38, x39, x40, x44, x31, x1, x44, x45, x46, x38, x0, x49] ++ [x50, x50, (D_1 0), (D_1 1), (D_1 2), (D_1 3), x56, x56, (D_2 0), (D_2 1), x60, x60, (D_3 0), (D_3 1), x64, x2, x66, x67, x16, x69, (D_4 7), (D_4 8), (D_4 9), (D_4 10), (D_4 11), (D_4 12), (D_4 13), (D_4 14), (D_4 15), (D_4 16), (D_4 17), (D_4 18), (D_4 19), (D_4 20), (D_4 21), (D_4 22), (D_4 23), (D_4 24), (D_4 25), (D_4 26), (D_4 27), (D_4 28), (D_4 29), (D_4 30), (D_4 31), (D_4 32), (D_4 33), (D_4 34), (D_4 35), (D_4 36)] ++ [(D_4 37), (D_4 38), (D_4 39), (D_4 40), (D_4 41), (D_4 42), (D_4 43), (D_4 44), (D_4 45), (D_4 46), (D_4 47), (D_4 48), (D_4 49), (D_4 50), (D_4 51), (D_4 52), (D_4 53), (D_4 54), (D_4 55), (D_4 56), undef, undef, undef, undef, undef, undef, undef, undef, undef, undef, undef]).toArray, []⟩) (by kernel_rfl) ?_
                    refine wp_seq ?_
                    refine wp_block ?_
                    refine wp_seq ?_
                    refine lwp_list ?_
                    refine ls_move (x := x31) (by kernel_rfl) (by kernel_rfl) ?_
                    refine ls_move (x := x67) (by kernel_rfl) (by kernel_rfl) ?_
                    refine ls_d (d := some 75) (by kernel_rfl) (by kernel_rfl) HA_8 (d_call (by kernel_rfl) (by kernel_rfl) H) (fun x75 h_5 w_9 H HA_9 => ?_)
                    refine ls_move (x := x75) (by kernel_rfl) (by kernel_rfl) ?_
                    refine ls_p (d := some 76) (by kernel_rfl) (by kernel_rfl) (p_tup (by kernel_rfl) H) (fun x76 H => ?_)
                    refine ls_p (d := some 77) (by kernel_rfl) (by kernel_rfl) (p_tup (by kernel_rfl) H) (fun x77 H => ?_)
                    refine ls_fr (b := ⟨([x0, x1, x2, undef, undef, undef, (D_4 0), x31, x38, x39, x40, x45, x46, x67, x14, x15, x16, (D_4 1), (D_4 2), (D_4 3), (D_4 4), x0, x22, x23, x23, (D 0), (D 1), (D 2), x28, undef, x30, x31, x31, x33, x37, x31, x0, x37, x38, x39, x40, x44, x31, x1, x44, x45, x46, x38, x0, x49] ++ [x50, x50, (D_1 0), (D_1 1), (D_1 2), (D_1 3), x56, x56, (D_2 0), (D_2 1), x60, x60, (D_3 0), (D_3 1), x64, x2, x66, x67, x16, x69, (D_4 7), (D_4 8), x75, x31, x67, x75, x76, x77, (D_4 15), (D_4 16), (D_4 17), (D_4 18), (D_4 19), (D_4 20), (D_4 21), (D_4 22), (D_4 23), (D_4 24), (D_4 25), (D_4 26), (D_4 27), (D_4 28), (D_4 29), (D_4 30), (D_4 31), (D_4 32), (D_4 33), (D_4 34), (D_4 35), (D_4 36)] ++ [(D_4 37), (D_4 38), (D_4 39), (D_4 40), (D_4 41), (D_4 42), (D_4 43), (D_4 44), (D_4 45), (D_4 46), (D_4 47), (D_4 48), (D_4 49), (D_4 50), (D_4 51), (D_4 52), (D_4 53), (D_4 54), (D_4 55), (D_4 56), undef, undef, undef, undef, undef, undef, undef, undef, undef, undef, undef]).toArray, []⟩) (by kernel_rfl) ?_
                    refine ls_assign (x := x76) (by kernel_rfl) (by kernel_rfl) ?_
                    refine ls_assign (x := x77) (by kernel_rfl) (by kernel_rfl) ?_
                    refine ls_nil ?_
                    refine then_normal ?_
                    refine fr_eq (b := ⟨([x0, x1, x2, undef, undef, undef, (D_4 0), x31, x38, x39, x40, x45, x46, x67, x14, x15, x16, x76, x77, (D_4 3), (D_4 4), x0, x22, x23, x23, (D 0), (D 1), (D 2), x28, undef, x30, x31, x31, x33, x37, x31, x0, x37, x38, x39, x40, x44, x31, x1, x44, x45, x46, x38, x0, x49] ++ [x50, x50, (D_1 0), (D_1 1), (D_1 2), (D_1 3), x56, x56, (D_2 0), (D_2 1), x60, x60, (D_3 0), (D_3 1), x64, x2, x66, x67, x16, x69, (D_4 7), (D_4 8), x75, x31, x67, x75, x76, x77, (D_4 15), (D_4 16), (D_4 17), (D_4 18), (D_4 19), (D_4 20), (D_4 21), (D_4 22), (D_4 23), (D_4 24), (D_4 25), (D_4 26), (D_4 27), (D_4 28), (D_4 29), (D_4 30), (D_4 31), (D_4 32), (D_4 33), (D_4 34), (D_4 35), (D_4 36)] ++ [(D_4 37), (D_4 38), (D_4 39), (D_4 40), (D_4 41), (D_4 42), (D_4 43), (D_4 44), (D_4 45), (D_4 46), (D_4 47), (D_4 48), (D_4 49), (D_4 50), (D_4 51), (D_4 52), (D_4 53), (D_4 54), (D_4 55), (D_4 56), undef, undef, undef, undef, undef, undef, undef, undef, undef, undef, undef]).toArray, []⟩) (by kernel_rfl) ?_
                    refine wp_seq ?_
                    refine lwp_list ?_
                    refine ls_move (x := x31) (by kernel_rfl) (by kernel_rfl) ?_
                    refine ls_move (x := x67) (by kernel_rfl) (by kernel_rfl) ?_
                    refine ls_d (d := some 81) (by kernel_rfl) (by kernel_rfl) HA_9 (d_call (by kernel_rfl) (by kernel_rfl) H) (fun x81 h_6 w_10 H HA_10 => ?_)
                    refine ls_move (x := x81) (by kernel_rfl) (by kernel_rfl) ?_
                    refine ls_p (d := some 82) (by kernel_rfl) (by kernel_rfl) (p_tup (by kernel_rfl) H) (fun x82 H => ?_)
                    refine ls_p (d := some 83) (by kernel_rfl) (by kernel_rfl) (p_tup (by kernel_rfl) H) (fun x83 H => ?_)
                    refine ls_fr (b := ⟨([x0, x1, x2, undef, undef, undef, (D_4 0), x31, x38, x39, x40, x45, x46, x67, x14, x15, x16, x76, x77, (D_4 3), (D_4 4), x0, x22, x23, x23, (D 0), (D 1), (D 2), x28, undef, x30, x31, x31, x33, x37, x31, x0, x37, x38, x39, x40, x44, x31, x1, x44, x45, x46, x38, x0, x49] ++ [x50, x50, (D_1 0), (D_1 1), (D_1 2), (D_1 3), x56, x56, (D_2 0), (D_2 1), x60, x60, (D_3 0), (D_3 1), x64, x2, x66, x67, x16, x69, (D_4 7), (D_4 8), x75, x31, x67, x75, x76, x77, x81, x31, x67, x81, x82, x83, (D_4 21), (D_4 22), (D_4 23), (D_4 24), (D_4 25), (D_4 26), (D_4 27), (D_4 28), (D_4 29), (D_4 30), (D_4 31), (D_4 32), (D_4 33), (D_4 34), (D_4 35), (D_4 36)] ++ [(D_4 37), (D_4 38), (D_4 39), (D_4 40), (D_4 41), (D_4 42), (D_4 43), (D_4 44), (D_4 45), (D_4 46), (D_4 47), (D_4 48), (D_4 49), (D_4 50), (D_4 51), (D_4 52), (D_4 53), (D_4 54), (D_4 55), (D_4 56), undef, undef, undef, undef, undef, undef, undef, undef, undef, undef, undef]).toArray, []⟩) (by kernel_rfl) ?_
                    refine ls_assign (x := x82) (by kernel_rfl) (by kernel_rfl) ?_
                    refine ls_assign (x := x83) (by kernel_rfl) (by kernel_rfl) ?_
                    refine ls_nil ?_
                    refine then_normal ?_
                    refine fr_eq (b := ⟨([x0, x1, x2, undef, undef, undef, (D_4 0), x31, x38, x39, x40, x45, x46, x67, x14, x15, x16, x76, x77, x82, x83, x0, x22, x23, x23, (D 0), (D 1), (D 2), x28, undef, x30, x31, x31, x33, x37, x31, x0, x37, x38, x39, x40, x44, x31, x1, x44, x45, x46, x38, x0, x49] ++ [x50, x50, (D_1 0), (D_1 1), (D_1 2), (D_1 3), x56, x56, (D_2 0), (D_2 1), x60, x60, (D_3 0), (D_3 1), x64, x2, x66, x67, x16, x69, (D_4 7), (D_4 8), x75, x31, x67, x75, x76, x77, x81, x31, x67, x81, x82, x83, (D_4 21), (D_4 22), (D_4 23), (D_4 24), (D_4 25), (D_4 26), (D_4 27), (D_4 28), (D_4 29), (D_4 30), (D_4 31), (D_4 32), (D_4 33), (D_4 34), (D_4 35), (D_4 36)] ++ [(D_4 37), (D_4 38), (D_4 39), (D_4 40), (D_4 41), (D_4 42), (D_4 43), (D_4 44), (D_4 45), (D_4 46), (D_4 47), (D_4 48), (D_4 49), (D_4 50), (D_4 51), (D_4 52), (D_4 53), (D_4 54), (D_4 55), (D_4 56), undef, undef, undef, undef, undef, undef, undef, undef, undef, undef, undef]).toArray, []⟩) (by kernel_rfl) ?_
                    refine wp_seq ?_
                    refine wp_seq ?_
                    refine lwp_list ?_
                    refine ls_move (x := x76) (by kernel_rfl) (by kernel_rfl) ?_
                    refine ls_p (d := some 85) (by kernel_rfl) (by kernel_rfl) (p_len Try.underlying30 (by kernel_rfl) H) (fun x85 H => ?_)
                    refine ls_move (x := x67) (by kernel_rfl) (by kernel_rfl) ?_
                    refine ls_p (d := some 87) (by kernel_rfl) (by kernel_rfl) (p_sGt (by kernel_rfl) (by kernel_rfl) H) (fun x87 H => ?_)
                    refine ls_move (x := x87) (by kernel_rfl) (by kernel_rfl) ?_
                    refine ls_or [(), (), (), (), ()] (fun K a w => ∃ (D_5 : Nat → Value) (x93 : Value), a = ⟨([x0, x1, x2, undef, undef, undef, (D_4 0), x31, x38, x39, x40, x45, x46, x67, x14, x15, x16, x76, x77, x82, x83, x0, x22, x23, x23, (D 0), (D 1), (D 2), x28, undef, x30, x31, x31, x33, x37, x31, x0, x37, x38, x39, x40, x44, x31, x1, x44, x45, x46, x38, x0, x49] ++ [x50, x50, (D_1 0), (D_1 1), (D_1 2), (D_1 3), x56, x56, (D_2 0), (D_2 1), x60, x60, (D_3 0), (D_3 1), x64, x2, x66, x67, x16, x69, (D_4 7), (D_4 8), x75, x31, x67, x75, x76, x77, x81, x31, x67, x81, x82, x83, x76, x85, x67, x87, x87, (D_5 0), (D_5 1), (D_5 2), (D_5 3), x93, (D_4 31), (D_4 32), (D_4 33), (D_4 34), (D_4 35), (D_4 36)] ++ [(D_4 37), (D_4 38), (D_4 39), (D_4 40), (D_4 41), (D_4 42), (D_4 43), (D_4 44), (D_4 45), (D_4 46), (D_4 47), (D_4 48), (D_4 49), (D_4 50), (D_4 51), (D_4 52), (D_4 53), (D_4 54), (D_4 55), (D_4 56), undef, undef, undef, undef, undef, undef, undef, undef, undef, undef, undef]).toArray, []⟩ ∧ At w0 w h_6 ∧ K x93) H (fun hb_2 H => ?_) (fun hb_2 H => ?_) ?_
                    · refine ls_move (x := x82) (by rw [hb_2]; kernel_rfl) (by kernel_rfl) ?_
                      refine ls_fr (b := ⟨([x0, x1, x2, undef, undef, undef, (D_4 0), x31, x38, x39, x40, x45, x46, x67, x14, x15, x16, x76, x77, x82, x83, x0, x22, x23, x23, (D 0), (D 1), (D 2), x28, undef, x30, x31, x31, x33, x37, x31, x0, x37, x38, x39, x40, x44, x31, x1, x44, x45, x46, x38, x0, x49] ++ [x50, x50, (D_1 0), (D_1 1), (D_1 2), (D_1 3), x56, x56, (D_2 0), (D_2 1), x60, x60, (D_3 0), (D_3 1), x64, x2, x66, x67, x16, x69, (D_4 7), (D_4 8), x75, x31, x67, x75, x76, x77, x81, x31, x67, x81, x82, x83, x76, x85, x67, x87, x87, x82, (D_4 27), (D_4 28), (D_4 29), (D_4 30), (D_4 31), (D_4 32), (D_4 33), (D_4 34), (D_4 35), (D_4 36)] ++ [(D_4 37), (D_4 38), (D_4 39), (D_4 40), (D_4 41), (D_4 42), (D_4 43), (D_4 44), (D_4 45), (D_4 46), (D_4 47), (D_4 48), (D_4 49), (D_4 50), (D_4 51), (D_4 52), (D_4 53), (D_4 54), (D_4 55), (D_4 56), undef, undef, undef, undef, undef, undef, undef, undef, undef, undef, undef]).toArray, []⟩) (by kernel_rfl) ?_
                      refine ls_p (d := some 90) (by kernel_rfl) (by rw [hb_2]; kernel_rfl) (p_len Try.underlying30 (by kernel_rfl) H) (fun x90 H => ?_)
                      refine ls_move (x := x67) (by rw [hb_2]; kernel_rfl) (by kernel_rfl) ?_
                      refine ls_p (d := some 92) (by kernel_rfl) (by rw [hb_2]; kernel_rfl) (p_sGt (by kernel_rfl) (by kernel_rfl) H) (fun x92 H => ?_)
                      refine ls_pick_f (y := x92) (by kernel_rfl) (by rw [hb_2]; kernel_rfl) (by kernel_rfl) ?_
                      refine ls_nil ?_
                      refine then_normal ?_
                      exact ⟨(fun i => ([x82, x90, x67, x92]).getD i undef), x92, by kernel_rfl, HA_10, H⟩
                    · refine ls_skip (d := some 89) (by kernel_rfl) (by rw [hb_2]; kernel_rfl) ?_
                      refine ls_fr (b := ⟨([x0, x1, x2, undef, undef, undef, (D_4 0), x31, x38, x39, x40, x45, x46, x67, x14, x15, x16, x76, x77, x82, x83, x0, x22, x23, x23, (D 0), (D 1), (D 2), x28, undef, x30, x31, x31, x33, x37, x31, x0, x37, x38, x39, x40, x44, x31, x1, x44, x45, x46, x38, x0, x49] ++ [x50, x50, (D_1 0), (D_1 1), (D_1 2), (D_1 3), x56, x56, (D_2 0), (D_2 1), x60, x60, (D_3 0), (D_3 1), x64, x2, x66, x67, x16, x69, (D_4 7), (D_4 8), x75, x31, x67, x75, x76, x77, x81, x31, x67, x81, x82, x83, x76, x85, x67, x87, x87, undef, (D_4 27), (D_4 28), (D_4 29), (D_4 30), (D_4 31), (D_4 32), (D_4 33), (D_4 34), (D_4 35), (D_4 36)] ++ [(D_4 37), (D_4 38), (D_4 39), (D_4 40), (D_4 41), (D_4 42), (D_4 43), (D_4 44), (D_4 45), (D_4 46), (D_4 47), (D_4 48), (D_4 49), (D_4 50), (D_4 51), (D_4 52), (D_4 53), (D_4 54), (D_4 55), (D_4 56), undef, undef, undef, undef, undef, undef, undef, undef, undef, undef, undef]).toArray, []⟩) (by kernel_rfl) ?_
                      refine ls_skip (d := some 90) (by kernel_rfl) (by rw [hb_2]; kernel_rfl) ?_
                      refine ls_skip (d := some 91) (by kernel_rfl) (by rw [hb_2]; kernel_rfl) ?_
                      refine ls_skip (d := some 92) (by kernel_rfl) (by rw [hb_2]; kernel_rfl) ?_
                      refine ls_pick_t (x := (.bool true)) (by kernel_rfl) (by rw [hb_2]; kernel_rfl) (by kernel_rfl) ?_
                      refine ls_nil ?_
                      refine then_normal ?_
                      exact ⟨(fun i => ([undef, undef, undef, undef]).getD i undef), (.bool true), by kernel_rfl, HA_10, H⟩
                    · rintro _ w_11 ⟨D_5, x93, rfl, HA_11, H⟩
                      refine ls_move (x := x93) (by kernel_rfl) (by kernel_rfl) ?_
                      refine ls_or [(), (), (), (), (), (), (), (), ()] (fun K a w => ∃ (D_6 : Nat → Value) (x103 : Value), a = ⟨([x0, x1, x2, undef, undef, undef, (D_4 0), x31, x38, x39, x40, x45, x46, x67, x14, x15, x16, x76, x77, x82, x83, x0, x22, x23, x23, (D 0), (D 1), (D 2), x28, undef, x30, x31, x31, x33, x37, x31, x0, x37, x38, x39, x40, x44, x31, x1, x44, x45, x46, x38, x0, x49] ++ [x50, x50, (D_1 0), (D_1 1), (D_1 2), (D_1 3), x56, x56, (D_2 0), (D_2 1), x60, x60, (D_3 0), (D_3 1), x64, x2, x66, x67, x16, x69, (D_4 7), (D_4 8), x75, x31, x67, x75, x76, x77, x81, x31, x67, x81, x82, x83, x76, x85, x67, x87, x87, (D_5 0), (D_5 1), (D_5 2), (D_5 3), x93, x93, (D_6 0), (D_6 1), (D_6 2), (D_6 3), (D_6 4)] ++ [(D_6 5), (D_6 6), (D_6 7), x103, (D_4 41), (D_4 42), (D_4 43), (D_4 44), (D_4 45), (D_4 46), (D_4 47), (D_4 48), (D_4 49), (D_4 50), (D_4 51), (D_4 52), (D_4 53), (D_4 54), (D_4 55), (D_4 56), undef, undef, undef, undef, undef, undef, undef, undef, undef, undef, undef]).toArray, []⟩ ∧ At w0 w h_6 ∧ K x103) H (fun hb_1 H => ?_) (fun hb_1 H => ?_) ?_
                      · refine ls_move (x := x77) (by rw [hb_1]; kernel_rfl) (by kernel_rfl) ?_
                        refine ls_p (d := some 96) (by kernel_rfl) (by rw [hb_1]; kernel_rfl) (p_sEq (by kernel_rfl) (by kernel_rfl) H) (fun x96 H => ?_)
                        refine ls_move (x := x14) (by rw [hb_1]; kernel_rfl) (by kernel_rfl) ?_
                        refine ls_p (d := some 98) (by kernel_rfl) (by rw [hb_1]; kernel_rfl) (p_len Try.underlying30 (by kernel_rfl) H) (fun x98 H => ?_)
                        refine ls_move (x := x0) (by rw [hb_1]; kernel_rfl) (by kernel_rfl) ?_
                        refine ls_fr (b := ⟨([x0, x1, x2, undef, undef, undef, (D_4 0), x31, x38, x39, x40, x45, x46, x67, x14, x15, x16, x76, x77, x82, x83, x0, x22, x23, x23, (D 0), (D 1), (D 2), x28, undef, x30, x31, x31, x33, x37, x31, x0, x37, x38, x39, x40, x44, x31, x1, x44, x45, x46, x38, x0, x49] ++ [x50, x50, (D_1 0), (D_1 1), (D_1 2), (D_1 3), x56, x56, (D_2 0), (D_2 1), x60, x60, (D_3 0), (D_3 1), x64, x2, x66, x67, x16, x69, (D_4 7), (D_4 8), x75, x31, x67, x75, x76, x77, x81, x31, x67, x81, x82, x83, x76, x85, x67, x87, x87, (D_5 0), (D_5 1), (D_5 2), (D_5 3), x93, x93, x77, x96, x14, x98, x0] ++ [(D_4 37), (D_4 38), (D_4 39), (D_4 40), (D_4 41), (D_4 42), (D_4 43), (D_4 44), (D_4 45), (D_4 46), (D_4 47), (D_4 48), (D_4 49), (D_4 50), (D_4 51), (D_4 52), (D_4 53), (D_4 54), (D_4 55), (D_4 56), undef, undef, undef, undef, undef, undef, undef, undef, undef, undef, undef]).toArray, []⟩) (by kernel_rfl) ?_
                        refine ls_p (d := some 100) (by kernel_rfl) (by rw [hb_1]; kernel_rfl) (p_len Try.underlying30 (by kernel_rfl) H) (fun x100 H => ?_)
                        refine ls_p (d := some 101) (by kernel_rfl) (by rw [hb_1]; kernel_rfl) (p_sEq (by kernel_rfl) (by kernel_rfl) H) (fun x101 H => ?_)
                        refine ls_p (d := some 102) (by kernel_rfl) (by rw [hb_1]; kernel_rfl) (p_neqB Try.underlying4 (by kernel_rfl) (by kernel_rfl) H) (fun x102 H => ?_)
                        refine ls_pick_f (y := x102) (by kernel_rfl) (by rw [hb_1]; kernel_rfl) (by kernel_rfl) ?_
                        refine ls_nil ?_
                        refine then_normal ?_
                        exact ⟨(fun i => ([x77, x96, x14, x98, x0, x100, x101, x102]).getD i undef), x102, by kernel_rfl, HA_11, H⟩
                      · refine ls_skip (d := some 95) (by kernel_rfl) (by rw [hb_1]; kernel_rfl) ?_
                        refine ls_skip (d := some 96) (by kernel_rfl) (by rw [hb_1]; kernel_rfl) ?_
                        refine ls_skip (d := some 97) (by kernel_rfl) (by rw [hb_1]; kernel_rfl) ?_
                        refine ls_skip (d := some 98) (by kernel_rfl) (by rw [hb_1]; kernel_rfl) ?_
                        refine ls_skip (d := some 99) (by kernel_rfl) (by rw [hb_1]; kernel_rfl) ?_
                        refine ls_fr (b := ⟨([x0, x1, x2, undef, undef, undef, (D_4 0), x31, x38, x39, x40, x45, x46, x67, x14, x15, x16, x76, x77, x82, x83, x0, x22, x23, x23, (D 0), (D 1), (D 2), x28, undef, x30, x31, x31, x33, x37, x31, x0, x37, x38, x39, x40, x44, x31, x1, x44, x45, x46, x38, x0, x49] ++ [x50, x50, (D_1 0), (D_1 1), (D_1 2), (D_1 3), x56, x56, (D_2 0), (D_2 1), x60, x60, (D_3 0), (D_3 1), x64, x2, x66, x67, x16, x69, (D_4 7), (D_4 8), x75, x31, x67, x75, x76, x77, x81, x31, x67, x81, x82, x83, x76, x85, x67, x87, x87, (D_5 0), (D_5 1), (D_5 2), (D_5 3), x93, x93, undef, undef, undef, undef, undef] ++ [(D_4 37), (D_4 38), (D_4 39), (D_4 40), (D_4 41), (D_4 42), (D_4 43), (D_4 44), (D_4 45), (D_4 46), (D_4 47), (D_4 48), (D_4 49), (D_4 50), (D_4 51), (D_4 52), (D_4 53), (D_4 54), (D_4 55), (D_4 56), undef, undef, undef, undef, undef, undef, undef, undef, undef, undef, undef]).toArray, []⟩) (by kernel_rfl) ?_
                        refine ls_skip (d := some 100) (by kernel_rfl) (by rw [hb_1]; kernel_rfl) ?_
                        refine ls_skip (d := some 101) (by kernel_rfl) (by rw [hb_1]; kernel_rfl) ?_
                        refine ls_skip (d := some 102) (by kernel_rfl) (by rw [hb_1]; kernel_rfl) ?_
                        refine ls_pick_t (x := (.bool true)) (by kernel_rfl) (by rw [hb_1]; kernel_rfl) (by kernel_rfl) ?_
                        refine ls_nil ?_
                        refine then_normal ?_
                        exact ⟨(fun i => ([undef, undef, undef, undef, undef, undef, undef, undef]).getD i undef), (.bool true), by kernel_rfl, HA_11, H⟩
                      · rintro _ w_12 ⟨D_6, x103, rfl, HA_12, H⟩
                        refine ls_move (x := x103) (by kernel_rfl) (by kernel_rfl) ?_
                        refine ls_or [(), (), (), (), (), (), (), (), ()] (fun K a w => ∃ (D_7 : Nat → Value) (x113 : Value), a = ⟨([x0, x1, x2, undef, undef, undef, (D_4 0), x31, x38, x39, x40, x45, x46, x67, x14, x15, x16, x76, x77, x82, x83, x0, x22, x23, x23, (D 0), (D 1), (D 2), x28, undef, x30, x31, x31, x33, x37, x31, x0, x37, x38, x39, x40, x44, x31, x1, x44, x45, x46, x38, x0, x49] ++ [x50, x50, (D_1 0), (D_1 1), (D_1 2), (D_1 3), x56, x56, (D_2 0), (D_2 1), x60, x60, (D_3 0), (D_3 1), x64, x2, x66, x67, x16, x69, (D_4 7), (D_4 8), x75, x31, x67, x75, x76, x77, x81, x31, x67, x81, x82, x83, x76, x85, x67, x87, x87, (D_5 0), (D_5 1), (D_5 2), (D_5 3), x93, x93, (D_6 0), (D_6 1), (D_6 2), (D_6 3), (D_6 4)] ++ [(D_6 5), (D_6 6), (D_6 7), x103, x103, (D_7 0), (D_7 1), (D_7 2), (D_7 3), (D_7 4), (D_7 5), (D_7 6), (D_7 7), x113, (D_4 51), (D_4 52), (D_4 53), (D_4 54), (D_4 55), (D_4 56), undef, undef, undef, undef, undef, undef, undef, undef, undef, undef, undef]).toArray, []⟩ ∧ At w0 w h_6 ∧ K x113) H (fun hb H => ?_) (fun hb H => ?_) ?_
                        · refine ls_move (x := x83) (by rw [hb]; kernel_rfl) (by kernel_rfl) ?_
                          refine ls_p (d := some 106) (by kernel_rfl) (by rw [hb]; kernel_rfl) (p_sEq (by kernel_rfl) (by kernel_rfl) H) (fun x106 H => ?_)
                          refine ls_move (x := x15) (by rw [hb]; kernel_rfl) (by kernel_rfl) ?_
                          refine ls_p (d := some 108) (by kernel_rfl) (by rw [hb]; kernel_rfl) (p_len Try.underlying30 (by kernel_rfl) H) (fun x108 H => ?_)
                          refine ls_move (x := x1) (by rw [hb]; kernel_rfl) (by kernel_rfl) ?_
                          refine ls_fr (b := ⟨([x0, x1, x2, undef, undef, undef, (D_4 0), x31, x38, x39, x40, x45, x46, x67, x14, x15, x16, x76, x77, x82, x83, x0, x22, x23, x23, (D 0), (D 1), (D 2), x28, undef, x30, x31, x31, x33, x37, x31, x0, x37, x38, x39, x40, x44, x31, x1, x44, x45, x46, x38, x0, x49] ++ [x50, x50, (D_1 0), (D_1 1), (D_1 2), (D_1 3), x56, x56, (D_2 0), (D_2 1), x60, x60, (D_3 0), (D_3 1), x64, x2, x66, x67, x16, x69, (D_4 7), (D_4 8), x75, x31, x67, x75, x76, x77, x81, x31, x67, x81, x82, x83, x76, x85, x67, x87, x87, (D_5 0), (D_5 1), (D_5 2), (D_5 3), x93, x93, (D_6 0), (D_6 1), (D_6 2), (D_6 3), (D_6 4)] ++ [(D_6 5), (D_6 6), (D_6 7), x103, x103, x83, x106, x15, x108, x1, (D_4 47), (D_4 48), (D_4 49), (D_4 50), (D_4 51), (D_4 52), (D_4 53), (D_4 54), (D_4 55), (D_4 56), undef, undef, undef, undef, undef, undef, undef, undef, undef, undef, undef]).toArray, []⟩) (by kernel_rfl) ?_
                          refine ls_p (d := some 110) (by kernel_rfl) (by rw [hb]; kernel_rfl) (p_len Try.underlying30 (by kernel_rfl) H) (fun x110 H => ?_)
                          refine ls_p (d := some 111) (by kernel_rfl) (by rw [hb]; kernel_rfl) (p_sEq (by kernel_rfl) (by kernel_rfl) H) (fun x111 H => ?_)
                          refine ls_p (d := some 112) (by kernel_rfl) (by rw [hb]; kernel_rfl) (p_neqB Try.underlying4 (by kernel_rfl) (by kernel_rfl) H) (fun x112 H => ?_)
                          refine ls_pick_f (y := x112) (by kernel_rfl) (by rw [hb]; kernel_rfl) (by kernel_rfl) ?_
                          refine ls_nil ?_
                          refine then_normal ?_
                          exact ⟨(fun i => ([x83, x106, x15, x108, x1, x110, x111, x112]).getD i undef), x112, by kernel_rfl, HA_12, H⟩
                        · refine ls_skip (d := some 105) (by kernel_rfl) (by rw [hb]; kernel_rfl) ?_
                          refine ls_skip (d := some 106) (by kernel_rfl) (by rw [hb]; kernel_rfl) ?_
                          refine ls_skip (d := some 107) (by kernel_rfl) (by rw [hb]; kernel_rfl) ?_
                          refine ls_skip (d := some 108) (by kernel_rfl) (by rw [hb]; kernel_rfl) ?_
                          refine ls_skip (d := some 109) (by kernel_rfl) (by rw [hb]; kernel_rfl) ?_
                          refine ls_fr (b := ⟨([x0, x1, x2, undef, undef, undef, (D_4 0), x31, x38, x39, x40, x45, x46, x67, x14, x15, x16, x76, x77, x82, x83, x0, x22, x23, x23, (D 0), (D 1), (D 2), x28, undef, x30, x31, x31, x33, x37, x31, x0, x37, x38, x39, x40, x44, x31, x1, x44, x45, x46, x38, x0, x49] ++ [x50, x50, (D_1 0), (D_1 1), (D_1 2), (D_1 3), x56, x56, (D_2 0), (D_2 1), x60, x60, (D_3 0), (D_3 1), x64, x2, x66, x67, x16, x69, (D_4 7), (D_4 8), x75, x31, x67, x75, x76, x77, x81, x31, x67, x81, x82, x83, x76, x85, x67, x87, x87, (D_5 0), (D_5 1), (D_5 2), (D_5 3), x93, x93, (D_6 0), (D_6 1), (D_6 2), (D_6 3), (D_6 4)] ++ [(D_6 5), (D_6 6), (D_6 7), x103, x103, undef, undef, undef, undef, undef, (D_4 47), (D_4 48), (D_4 49), (D_4 50), (D_4 51), (D_4 52), (D_4 53), (D_4 54), (D_4 55), (D_4 56), undef, undef, undef, undef, undef, undef, undef, undef, undef, undef, undef]).toArray, []⟩) (by kernel_rfl) ?_
                          refine ls_skip (d := some 110) (by kernel_rfl) (by rw [hb]; kernel_rfl) ?_
                          refine ls_skip (d := some 111) (by kernel_rfl) (by rw [hb]; kernel_rfl) ?_
                          refine ls_skip (d := some 112) (by kernel_rfl) (by rw [hb]; kernel_rfl) ?_
                          refine ls_pick_t (x := (.bool true)) (by kernel_rfl) (by rw [hb]; kernel_rfl) (by kernel_rfl) ?_
                          refine ls_nil ?_
                          refine then_normal ?_
                          exact ⟨(fun i => ([undef, undef, undef, undef, undef, undef, undef, undef]).getD i undef), (.bool true), by kernel_rfl, HA_12, H⟩
                        · rintro _ w_13 ⟨D_7, x113, rfl, HA_13, H⟩
                          refine ls_nil ?_
                          refine then_normal ?_
                          refine fr_eq (b := ⟨([x0, x1, x2, undef, undef, undef, (D_4 0), x31, x38, x39, x40, x45, x46, x67, x14, x15, x16, x76, x77, x82, x83, x0, x22, x23, x23, (D 0), (D 1), (D 2), x28, undef, x30, x31, x31, x33, x37, x31, x0, x37, x38, x39, x40, x44, x31, x1, x44, x45, x46, x38, x0, x49] ++ [x50, x50, (D_1 0), (D_1 1), (D_1 2), (D_1 3), x56, x56, (D_2 0), (D_2 1), x60, x60, (D_3 0), (D_3 1), x64, x2, x66, x67, x16, x69, (D_4 7), (D_4 8), x75, x31, x67, x75, x76, x77, x81, x31, x67, x81, x82, x83, x76, x85, x67, x87, x87, (D_5 0), (D_5 1), (D_5 2), (D_5 3), x93, x93, (D_6 0), (D_6 1), (D_6 2), (D_6 3), (D_6 4)] ++ [(D_6 5), (D_6 6), (D_6 7), x103, x103, (D_7 0), (D_7 1), (D_7 2), (D_7 3), (D_7 4), (D_7 5), (D_7 6), (D_7 7), x113, (D_4 51), (D_4 52), (D_4 53), (D_4 54), (D_4 55), (D_4 56), undef, undef, undef, undef, undef, undef, undef, undef, undef, undef, undef]).toArray, []⟩) (by kernel_rfl) ?_
                          refine wp_if rfl H (fun H => ?_) (fun H => ?_)
                          · refine wp_seq ?_
                            refine lwp_list ?_
                            refine ls_assign (x := (.bool false)) (by kernel_rfl) (by kernel_rfl) ?_
                            refine ls_nil ?_
                            refine then_normal ?_
                            refine fr_eq (b := ⟨([x0, x1, x2, undef, undef, undef, (.bool false), x31, x38, x39, x40, x45, x46, x67, x14, x15, x16, x76, x77, x82, x83, x0, x22, x23, x23, (D 0), (D 1), (D 2), x28, undef, x30, x31, x31, x33, x37, x31, x0, x37, x38, x39, x40, x44, x31, x1, x44, x45, x46, x38, x0, x49] ++ [x50, x50, (D_1 0), (D_1 1), (D_1 2), (D_1 3), x56, x56, (D_2 0), (D_2 1), x60, x60, (D_3 0), (D_3 1), x64, x2, x66, x67, x16, x69, (D_4 7), (D_4 8), x75, x31, x67, x75, x76, x77, x81, x31, x67, x81, x82, x83, x76, x85, x67, x87, x87, (D_5 0), (D_5 1), (D_5 2), (D_5 3), x93, x93, (D_6 0), (D_6 1), (D_6 2), (D_6 3), (D_6 4)] ++ [(D_6 5), (D_6 6), (D_6 7), x103, x103, (D_7 0), (D_7 1), (D_7 2), (D_7 3), (D_7 4), (D_7 5), (D_7 6), (D_7 7), x113, (D_4 51), (D_4 52), (D_4 53), (D_4 54), (D_4 55), (D_4 56), undef, undef, undef, undef, undef, undef, undef, undef, undef, undef, undef]).toArray, []⟩) (by kernel_rfl) ?_
                            refine wp_ret ?_
                            refine then_ret ?_
                            refine block_ret ?_
                            refine then_ret ?_
                            refine then_ret ?_
                            refine block_ret ?_
                            refine then_ret ?_
                            exact end1 (Try.results11) (by kernel_rfl) (by kernel_rfl) HA_13 H _ (.inr rfl)
                          · refine wp_skip ?_
                            refine then_normal ?_
                            refine fr_eq (b := ⟨([x0, x1, x2, undef, undef, undef, (D_4 0), x31, x38, x39, x40, x45, x46, x67, x14, x15, x16, x76, x77, x82, x83, x0, x22, x23, x23, (D 0), (D 1), (D 2), x28, undef, x30, x31, x31, x33, x37, x31, x0, x37, x38, x39, x40, x44, x31, x1, x44, x45, x46, x38, x0, x49] ++ [x50, x50, (D_1 0), (D_1 1), (D_1 2), (D_1 3), x56, x56, (D_2 0), (D_2 1), x60, x60, (D_3 0), (D_3 1), x64, x2, x66, x67, x16, x69, (D_4 7), (D_4 8), x75, x31, x67, x75, x76, x77, x81, x31, x67, x81, x82, x83, x76, x85, x67, x87, x87, (D_5 0), (D_5 1), (D_5 2), (D_5 3), x93, x93, (D_6 0), (D_6 1), (D_6 2), (D_6 3), (D_6 4)] ++ [(D_6 5), (D_6 6), (D_6 7), x103, x103, (D_7 0), (D_7 1), (D_7 2), (D_7 3), (D_7 4), (D_7 5), (D_7 6), (D_7 7), x113, (D_4 51), (D_4 52), (D_4 53), (D_4 54), (D_4 55), (D_4 56), undef, undef, undef, undef, undef, undef, undef, undef, undef, undef, undef]).toArray, []⟩) (by kernel_rfl) ?_
                            refine wp_seq ?_
                            refine lwp_list ?_
                            refine ls_move (x := x14) (by kernel_rfl) (by kernel_rfl) ?_
                            refine ls_move (x := x76) (by kernel_rfl) (by kernel_rfl) ?_
                            refine ls_d (d := some 116) (by kernel_rfl) (by kernel_rfl) HA_13 (d_app (z := #[.int .u8 0]) Try.underlying30 Try.underlying30 (.inl ⟨_, rfl⟩) Try.typeInfo5 (by kernel_rfl) Try.sizeOf5 Try.zeroValue5 (by kernel_rfl) (by kernel_rfl) (by kernel_rfl) H) (fun x116 h_7 w_14 H HA_14 => ?_)
                            refine ls_assign (x := x116) (by kernel_rfl) (by kernel_rfl) ?_
                            refine ls_nil ?_
                            refine then_normal ?_
                            refine fr_eq (b := ⟨([x0, x1, x2, undef, undef, undef, (D_4 0), x31, x38, x39, x40, x45, x46, x67, x116, x15, x16, x76, x77, x82, x83, x0, x22, x23, x23, (D 0), (D 1), (D 2), x28, undef, x30, x31, x31, x33, x37, x31, x0, x37, x38, x39, x40, x44, x31, x1, x44, x45, x46, x38, x0, x49] ++ [x50, x50, (D_1 0), (D_1 1), (D_1 2), (D_1 3), x56, x56, (D_2 0), (D_2 1), x60, x60, (D_3 0), (D_3 1), x64, x2, x66, x67, x16, x69, (D_4 7), (D_4 8), x75, x31, x67, x75, x76, x77, x81, x31, x67, x81, x82, x83, x76, x85, x67, x87, x87, (D_5 0), (D_5 1), (D_5 2), (D_5 3), x93, x93, (D_6 0), (D_6 1), (D_6 2), (D_6 3), (D_6 4)] ++ [(D_6 5), (D_6 6), (D_6 7), x103, x103, (D_7 0), (D_7 1), (D_7 2), (D_7 3), (D_7 4), (D_7 5), (D_7 6), (D_7 7), x113, x14, x76, x116, (D_4 54), (D_4 55), (D_4 56), undef, undef, undef, undef, undef, undef, undef, undef, undef, undef, undef]).toArray, []⟩) (by kernel_rfl) ?_
                            refine lwp_list ?_
                            refine ls_move (x := x15) (by kernel_rfl) (by kernel_rfl) ?_
                            refine ls_move (x := x82) (by kernel_rfl) (by kernel_rfl) ?_
                            refine ls_d (d := some 119) (by kernel_rfl) (by kernel_rfl) HA_14 (d_app (z := #[.int .u8 0]) Try.underlying30 Try.underlying30 (.inl ⟨_, rfl⟩) Try.typeInfo5 (by kernel_rfl) Try.sizeOf5 Try.zeroValue5 (by kernel_rfl) (by kernel_rfl) (by kernel_rfl) H) (fun x119 h_8 w_15 H HA_15 => ?_)
                            refine ls_assign (x := x119) (by kernel_rfl) (by kernel_rfl) ?_
                            refine ls_nil ?_
                            refine block_normal ?_
                            refine then_normal ?_
                            refine fr_eq (b := ⟨([x0, x1, x2, undef, undef, undef, (D_4 0), x31, x38, x39, x40, x45, x46, x67, x116, x119, x16, x76, x77, x82, x83, x0, x22, x23, x23, (D 0), (D 1), (D 2), x28, undef, x30, x31, x31, x33, x37, x31, x0, x37, x38, x39, x40, x44, x31, x1, x44, x45, x46, x38, x0, x49] ++ [x50, x50, (D_1 0), (D_1 1), (D_1 2), (D_1 3), x56, x56, (D_2 0), (D_2 1), x60, x60, (D_3 0), (D_3 1), x64, x2, x66, x67, x16, x69, (D_4 7), (D_4 8), x75, x31, x67, x75, x76, x77, x81, x31, x67, x81, x82, x83, x76, x85, x67, x87, x87, (D_5 0), (D_5 1), (D_5 2), (D_5 3), x93, x93, (D_6 0), (D_6 1), (D_6 2), (D_6 3), (D_6 4)] ++ [(D_6 5), (D_6 6), (D_6 7), x103, x103, (D_7 0), (D_7 1), (D_7 2), (D_7 3), (D_7 4), (D_7 5), (D_7 6), (D_7 7), x113, x14, x76, x116, x15, x82, x119, undef, undef, undef, undef, undef, undef, undef, undef, undef, undef, undef]).toArray, []⟩) (by kernel_rfl) ?_
                            refine lwp_list ?_
                            refine ls_move (x := x16) (by kernel_rfl) (by kernel_rfl) ?_
                            refine ls_p (d := some 71) (by kernel_rfl) (by kernel_rfl) (p_add (by kernel_rfl) (by kernel_rfl) H) (fun x71 H => ?_)
                            refine ls_assign (x := x71) (by kernel_rfl) (by kernel_rfl) ?_
                            refine ls_nil ?_
                            exact ⟨⟨(fun i => ([(D_4 0), x76, x77, x82, x83, x16, x69, x16, x71, x75, x31, x67, x75, x76, x77, x81, x31, x67, x81, x82, x83, x76, x85, x67, x87, x87, (D_5 0), (D_5 1), (D_5 2), (D_5 3), x93, x93, (D_6 0), (D_6 1), (D_6 2), (D_6 3), (D_6 4), (D_6 5), (D_6 6), (D_6 7), x103, x103, (D_7 0), (D_7 1), (D_7 2), (D_7 3), (D_7 4), (D_7 5), (D_7 6), (D_7 7)] ++ [x113, x14, x76, x116, x15, x82, x119]).getD i undef), x116, x119, x71, h_8, by kernel_rfl, HA_15, H.1⟩, loop_lt HA_15.heap HA_8.heap (by kernel_rfl) (by kernel_rfl) H.2⟩
                  · refine wp_exit ?_
                    refine then_exit ?_
                    refine then_exit ?_
                    refine block_exit ?_
                    refine then_normal ?_
                    refine fr_eq (b := ⟨([x0, x1, x2, undef, undef, undef, (D_4 0), x31, x38, x39, x40, x45, x46, x67, x14, x15, x16, (D_4 1), (D_4 2), (D_4 3), (D_4 4), x0, x22, x23, x23, (D 0), (D 1), (D 2), x28, undef, x30, x31, x31, x33, x37, x31, x0, x37, x38, x39, x40, x44, x31, x1, x44, x45, x46, x38, x0, x49] ++ [x50, x50, (D_1 0), (D_1 1), (D_1 2), (D_1 3), x56, x56, (D_2 0), (D_2 1), x60, x60, (D_3 0), (D_3 1), x64, x2, x66, x67, x16, x69, (D_4 7), (D_4 8), (D_4 9), (D_4 10), (D_4 11), (D_4 12), (D_4 13), (D_4 14), (D_4 15), (D_4 16), (D_4 17), (D_4 18), (D_4 19), (D_4 20), (D_4 21), (D_4 22), (D_4 23), (D_4 24), (D_4 25), (D_4 26), (D_4 27), (D_4 28), (D_4 29), (D_4 30), (D_4 31), (D_4 32), (D_4 33), (D_4 34), (D_4 35), (D_4 36)] ++ [(D_4 37), (D_4 38), (D_4 39), (D_4 40), (D_4 41), (D_4 42), (D_4 43), (D_4 44), (D_4 45), (D_4 46), (D_4 47), (D_4 48), (D_4 49), (D_4 50), (D_4 51), (D_4 52), (D_4 53), (D_4 54), (D_4 55), (D_4 56), undef, undef, undef, undef, undef, undef, undef, undef, undef, undef, undef]).toArray, []⟩) (by kernel_rfl) ?_
                    refine wp_seq ?_
                    refine lwp_list ?_
                    refine ls_move (x := x14) (by kernel_rfl) (by kernel_rfl) ?_
                    refine ls_move (x := x0) (by kernel_rfl) (by kernel_rfl) ?_
                    refine ls_d (d := some 122) (by kernel_rfl) (by kernel_rfl) HA_8 (d_call (by kernel_rfl) (by kernel_rfl) H) (fun x122 h_9 w_16 H HA_16 => ?_)
                    refine ls_move (x := x122) (by kernel_rfl) (by kernel_rfl) ?_
                    refine ls_andh [(), (), (), ()] (fun K a w => ∃ (D_8 : Nat → Value) (x127 : Value) (h_10 : Heap), a = ⟨([x0, x1, x2, undef, undef, undef, (D_4 0), x31, x38, x39, x40, x45, x46, x67, x14, x15, x16, (D_4 1), (D_4 2), (D_4 3), (D_4 4), x0, x22, x23, x23, (D 0), (D 1), (D 2), x28, undef, x30, x31, x31, x33, x37, x31, x0, x37, x38, x39, x40, x44, x31, x1, x44, x45, x46, x38, x0, x49] ++ [x50, x50, (D_1 0), (D_1 1), (D_1 2), (D_1 3), x56, x56, (D_2 0), (D_2 1), x60, x60, (D_3 0), (D_3 1), x64, x2, x66, x67, x16, x69, (D_4 7), (D_4 8), (D_4 9), (D_4 10), (D_4 11), (D_4 12), (D_4 13), (D_4 14), (D_4 15), (D_4 16), (D_4 17), (D_4 18), (D_4 19), (D_4 20), (D_4 21), (D_4 22), (D_4 23), (D_4 24), (D_4 25), (D_4 26), (D_4 27), (D_4 28), (D_4 29), (D_4 30), (D_4 31), (D_4 32), (D_4 33), (D_4 34), (D_4 35), (D_4 36)] ++ [(D_4 37), (D_4 38), (D_4 39), (D_4 40), (D_4 41), (D_4 42), (D_4 43), (D_4 44), (D_4 45), (D_4 46), (D_4 47), (D_4 48), (D_4 49), (D_4 50), (D_4 51), (D_4 52), (D_4 53), (D_4 54), (D_4 55), (D_4 56), x14, x0, x122, x122, (D_8 0), (D_8 1), (D_8 2), x127, undef, undef, undef]).toArray, []⟩ ∧ At w0 w h_10 ∧ K x127 h_10) H (fun hb_4 H => ?_) (fun hb_4 H => ?_) ?_
                    · refine ls_move (x := x15) (by rw [hb_4]; kernel_rfl) (by kernel_rfl) ?_
                      refine ls_move (x := x1) (by rw [hb_4]; kernel_rfl) (by kernel_rfl) ?_
                      refine ls_fr (b := ⟨([x0, x1, x2, undef, undef, undef, (D_4 0), x31, x38, x39, x40, x45, x46, x67, x14, x15, x16, (D_4 1), (D_4 2), (D_4 3), (D_4 4), x0, x22, x23, x23, (D 0), (D 1), (D 2), x28, undef, x30, x31, x31, x33, x37, x31, x0, x37, x38, x39, x40, x44, x31, x1, x44, x45, x46, x38, x0, x49] ++ [x50, x50, (D_1 0), (D_1 1), (D_1 2), (D_1 3), x56, x56, (D_2 0), (D_2 1), x60, x60, (D_3 0), (D_3 1), x64, x2, x66, x67, x16, x69, (D_4 7), (D_4 8), (D_4 9), (D_4 10), (D_4 11), (D_4 12), (D_4 13), (D_4 14), (D_4 15), (D_4 16), (D_4 17), (D_4 18), (D_4 19), (D_4 20), (D_4 21), (D_4 22), (D_4 23), (D_4 24), (D_4 25), (D_4 26), (D_4 27), (D_4 28), (D_4 29), (D_4 30), (D_4 31), (D_4 32), (D_4 33), (D_4 34), (D_4 35), (D_4 36)] ++ [(D_4 37), (D_4 38), (D_4 39), (D_4 40), (D_4 41), (D_4 42), (D_4 43), (D_4 44), (D_4 45), (D_4 46), (D_4 47), (D_4 48), (D_4 49), (D_4 50), (D_4 51), (D_4 52), (D_4 53), (D_4 54), (D_4 55), (D_4 56), x14, x0, x122, x122, x15, x1, undef, undef, undef, undef, undef]).toArray, []⟩) (by kernel_rfl) ?_
                      refine ls_d (d := some 126) (by kernel_rfl) (by rw [hb_4]; kernel_rfl) HA_16 (d_call (by kernel_rfl) (by kernel_rfl) H) (fun x126 h_13 w_20 H HA_20 => ?_)
                      refine ls_pick_t (x := x126) (by kernel_rfl) (by rw [hb_4]; kernel_rfl) (by kernel_rfl) ?_
                      refine ls_nil ?_
                      refine then_normal ?_
                      exact ⟨(fun i => ([x15, x1, x126]).getD i undef), x126, h_13, by kernel_rfl, HA_20, H⟩
                    · refine ls_skip (d := some 124) (by kernel_rfl) (by rw [hb_4]; kernel_rfl) ?_
                      refine ls_skip (d := some 125) (by kernel_rfl) (by rw [hb_4]; kernel_rfl) ?_
                      refine ls_fr (b := ⟨([x0, x1, x2, undef, undef, undef, (D_4 0), x31, x38, x39, x40, x45, x46, x67, x14, x15, x16, (D_4 1), (D_4 2), (D_4 3), (D_4 4), x0, x22, x23, x23, (D 0), (D 1), (D 2), x28, undef, x30, x31, x31, x33, x37, x31, x0, x37, x38, x39, x40, x44, x31, x1, x44, x45, x46, x38, x0, x49] ++ [x50, x50, (D_1 0), (D_1 1), (D_1 2), (D_1 3), x56, x56, (D_2 0), (D_2 1), x60, x60, (D_3 0), (D_3 1), x64, x2, x66, x67, x16, x69, (D_4 7), (D_4 8), (D_4 9), (D_4 10), (D_4 11), (D_4 12), (D_4 13), (D_4 14), (D_4 15), (D_4 16), (D_4 17), (D_4 18), (D_4 19), (D_4 20), (D_4 21), (D_4 22), (D_4 23), (D_4 24), (D_4 25), (D_4 26), (D_4 27), (D_4 28), (D_4 29), (D_4 30), (D_4 31), (D_4 32), (D_4 33), (D_4 34), (D_4 35), (D_4 36)] ++ [(D_4 37), (D_4 38), (D_4 39), (D_4 40), (D_4 41), (D_4 42), (D_4 43), (D_4 44), (D_4 45), (D_4 46), (D_4 47), (D_4 48), (D_4 49), (D_4 50), (D_4 51), (D_4 52), (D_4 53), (D_4 54), (D_4 55), (D_4 56), x14, x0, x122, x122, undef, undef, undef, undef, undef, undef, undef]).toArray, []⟩) (by kernel_rfl) ?_
                      refine ls_skip (d := some 126) (by kernel_rfl) (by rw [hb_4]; kernel_rfl) ?_
                      refine ls_pick_f (y := (.bool false)) (by kernel_rfl) (by rw [hb_4]; kernel_rfl) (by kernel_rfl) ?_
                      refine ls_nil ?_
                      refine then_normal ?_
                      exact ⟨(fun i => ([undef, undef, undef]).getD i undef), (.bool false), h_9, by kernel_rfl, HA_16, H⟩
                    · rintro _ w_17 ⟨D_8, x127, h_10, rfl, HA_17, H⟩
                      refine ls_move (x := x127) (by kernel_rfl) (by kernel_rfl) ?_
                      refine ls_andh [(), ()] (fun K a w => ∃ (D_9 : Nat → Value) (x130 : Value) (h_11 : Heap), a = ⟨([x0, x1, x2, undef, undef, undef, (D_4 0), x31, x38, x39, x40, x45, x46, x67, x14, x15, x16, (D_4 1), (D_4 2), (D_4 3), (D_4 4), x0, x22, x23, x23, (D 0), (D 1), (D 2), x28, undef, x30, x31, x31, x33, x37, x31, x0, x37, x38, x39, x40, x44, x31, x1, x44, x45, x46, x38, x0, x49] ++ [x50, x50, (D_1 0), (D_1 1), (D_1 2), (D_1 3), x56, x56, (D_2 0), (D_2 1), x60, x60, (D_3 0), (D_3 1), x64, x2, x66, x67, x16, x69, (D_4 7), (D_4 8), (D_4 9), (D_4 10), (D_4 11), (D_4 12), (D_4 13), (D_4 14), (D_4 15), (D_4 16), (D_4 17), (D_4 18), (D_4 19), (D_4 20), (D_4 21), (D_4 22), (D_4 23), (D_4 24), (D_4 25), (D_4 26), (D_4 27), (D_4 28), (D_4 29), (D_4 30), (D_4 31), (D_4 32), (D_4 33), (D_4 34), (D_4 35), (D_4 36)] ++ [(D_4 37), (D_4 38), (D_4 39), (D_4 40), (D_4 41), (D_4 42), (D_4 43), (D_4 44), (D_4 45), (D_4 46), (D_4 47), (D_4 48), (D_4 49), (D_4 50), (D_4 51), (D_4 52), (D_4 53), (D_4 54), (D_4 55), (D_4 56), x14, x0, x122, x122, (D_8 0), (D_8 1), (D_8 2), x127, x127, (D_9 0), x130]).toArray, []⟩ ∧ At w0 w h_11 ∧ K x130 h_11) H (fun hb_3 H => ?_) (fun hb_3 H => ?_) ?_
                      · refine ls_d (d := some 129) (by kernel_rfl) (by rw [hb_3]; kernel_rfl) HA_17 (d_call (by kernel_rfl) (by kernel_rfl) H) (fun x129 h_12 w_19 H HA_19 => ?_)
                        refine ls_pick_t (x := x129) (by kernel_rfl) (by rw [hb_3]; kernel_rfl) (by kernel_rfl) ?_
                        refine ls_nil ?_
                        refine then_normal ?_
                        exact ⟨(fun i => ([x129]).getD i undef), x129, h_12, by kernel_rfl, HA_19, H⟩
                      · refine ls_skip (d := some 129) (by kernel_rfl) (by rw [hb_3]; kernel_rfl) ?_
                        refine ls_pick_f (y := (.bool false)) (by kernel_rfl) (by rw [hb_3]; kernel_rfl) (by kernel_rfl) ?_
                        refine ls_nil ?_
                        refine then_normal ?_
                        exact ⟨(fun i => ([undef]).getD i undef), (.bool false), h_10, by kernel_rfl, HA_17, H⟩
                      · rintro _ w_18 ⟨D_9, x130, h_11, rfl, HA_18, H⟩
                        refine ls_assign (x := x130) (by kernel_rfl) (by kernel_rfl) ?_
                        refine ls_nil ?_
                        refine then_normal ?_
                        refine fr_eq (b := ⟨([x0, x1, x2, undef, undef, undef, x130, x31, x38, x39, x40, x45, x46, x67, x14, x15, x16, (D_4 1), (D_4 2), (D_4 3), (D_4 4), x0, x22, x23, x23, (D 0), (D 1), (D 2), x28, undef, x30, x31, x31, x33, x37, x31, x0, x37, x38, x39, x40, x44, x31, x1, x44, x45, x46, x38, x0, x49] ++ [x50, x50, (D_1 0), (D_1 1), (D_1 2), (D_1 3), x56, x56, (D_2 0), (D_2 1), x60, x60, (D_3 0), (D_3 1), x64, x2, x66, x67, x16, x69, (D_4 7), (D_4 8), (D_4 9), (D_4 10), (D_4 11), (D_4 12), (D_4 13), (D_4 14), (D_4 15), (D_4 16), (D_4 17), (D_4 18), (D_4 19), (D_4 20), (D_4 21), (D_4 22), (D_4 23), (D_4 24), (D_4 25), (D_4 26), (D_4 27), (D_4 28), (D_4 29), (D_4 30), (D_4 31), (D_4 32), (D_4 33), (D_4 34), (D_4 35), (D_4 36)] ++ [(D_4 37), (D_4 38), (D_4 39), (D_4 40), (D_4 41), (D_4 42), (D_4 43), (D_4 44), (D_4 45), (D_4 46), (D_4 47), (D_4 48), (D_4 49), (D_4 50), (D_4 51), (D_4 52), (D_4 53), (D_4 54), (D_4 55), (D_4 56), x14, x0, x122, x122, (D_8 0), (D_8 1), (D_8 2), x127, x127, (D_9 0), x130]).toArray, []⟩) (by kernel_rfl) ?_
                        refine wp_ret ?_
                        exact end1 (Try.results11) (by kernel_rfl) (by kernel_rfl) HA_18 H _ (.inr rfl)

end Go.Proofs.Ytlcklnbgknhhkaa
