/- The shallow reading of one function, and that the function does it. Written by a program. -/
import Derived.Test.YtbgipcikkedloaaFnC
set_option linter.unusedVariables false
namespace Go.Proofs.Ytbgipcikkedloaa
open Go Go.HW

def betonylaw08_ScanFeeds_j3 (next1 : Value → Value → Heap → Prop) (x10 x4_2 : Value) (h_8 : Heap) : Prop :=
  sAdd .i64 x10 (.int .i64 1) fun x70 =>
  next1 x4_2 x70 h_8
def betonylaw08_ScanFeeds_l2 (R : Value → Heap → Prop) (next : Value → Value → Heap → Prop) (x0 x3 x5 x27 : Value) (next1 : Value → Value → Heap → Prop) (x4_1 x10 : Value) (h_7 : Heap) : Prop :=
  sLt x10 (.int .i64 3) fun x68 =>
  sIf x68 (sSlit h_7 #[.int .i64 0, .int .i64 0, .int .i64 0] [(0, 1, (.int .i64 1)), (1, 1, (.int .i64 2)), (2, 1, (.int .i64 4))] 3 3 fun x71 h_9 => 
  sIxS x71 x10 1 fun x73 =>
  sLd h_9 x73 fun x74 =>
  sAdd .i64 (.int .i64 96) x10 fun x77 =>
  sEq x27 x77 fun x78 =>
  sIf x78 (sBits .andNot .i64 x4_1 x74 fun x81 =>
  sIxS x0 x5 1 fun x84 =>
  sLd h_9 x84 fun x85 =>
  sLt x85 (.int .u8 128) fun x86 =>
  sIf x86 (sBits .or .i64 x81 x74 fun x89 =>
  betonylaw08_ScanFeeds_j3 next1 x10 x89 h_9) (betonylaw08_ScanFeeds_j3 next1 x10 x81 h_9)) (betonylaw08_ScanFeeds_j3 next1 x10 x4_1 h_9)) (scan_Decoder_Mods_c x3 h_7 fun x90 h_10 => 
  sNe x90 x4_1 fun x92 =>
  sIf x92 (R (.bool false) h_10) (sAdd .i64 x5 (.int .i64 1) fun x21 =>
  next x4_1 x21 h_10))
def betonylaw08_ScanFeeds_l1 (R : Value → Heap → Prop) (x0 x3 : Value) (next : Value → Value → Heap → Prop) (x4 x5 : Value) (h_2 : Heap) : Prop :=
  sLen x0 fun x18 =>
  sLt x5 x18 fun x19 =>
  sIf x19 (sIxS x0 x5 1 fun x24 =>
  sLd h_2 x24 fun x25 =>
  sConv .i64 x25 fun x26 =>
  sRem .i64 x26 (.int .i64 128) fun x27 =>
  sIxS x0 x5 1 fun x31 =>
  sLd h_2 x31 fun x32 =>
  scan_Decoder_Feed_c x3 x32 h_2 fun x33 h_3 => 
  sTup x33 0 fun x34 =>
  sTup x33 1 fun x35 =>
  sNew h_3 #[.int .i64 0, .int .i64 0] 52 fun x7 h_4 => 
  sStN h_4 x7 x34 2 fun h_5 => 
  sIxS x0 x5 1 fun x38 =>
  sLd h_5 x38 fun x39 =>
  sLt x39 (.int .u8 128) fun x40 =>
  sAndH x40 h_5 (fun k_4 =>
  betonyref08_Key_c x27 h_5 fun x43 h_11 => 
  k_4 x43 h_11) fun x44 h_6 =>
  sNeqB x35 x44 fun x47 =>
  sOr x47 (fun k_2 =>
  sAnd x35 (fun k_3 =>
  sLdN h_6 x7 2 fun x51 =>
  sBuild #[.int .i64 0, .int .i64 0] [(0, 1, x27), (1, 1, x4)] fun x54 =>
  sNeqAgg x51 x54 [some .i64, some .i64] fun x55 =>
  k_3 x55) fun x56 =>
  k_2 x56) fun x57 =>
  sOr x57 (fun k =>
  sNot x35 fun x60 =>
  sAnd x60 (fun k_1 =>
  sLdN h_6 x7 2 fun x62 =>
  sBuild #[.int .i64 0, .int .i64 0] [] fun x63 =>
  sNeqAgg x62 x63 [some .i64, some .i64] fun x64 =>
  k_1 x64) fun x65 =>
  k x65) fun x66 =>
  sIf x66 (R (.bool false) h_6) (sLoop (S := Value × Value) (fun nxt s h => betonylaw08_ScanFeeds_l2 R next x0 x3 x5 x27 (fun x4_1' x10' h => nxt (x4_1', x10') h) s.1 s.2 h) (x4, (.int .i64 0)) h_6)) (betonylaw08_awake_c  h_2 fun x93 h_12 => 
  R x93 h_12)
def betonylaw08_ScanFeeds_S (x0 : Value) (h : Heap) (R : Value → Heap → Prop) : Prop :=
  sLen x0 fun x13 =>
  sGt x13 (.int .i64 300) fun x14 =>
  sIf x14 (betonylaw08_awake_c  h fun x15 h => 
  R x15 h) (sNew h #[.int .i64 0] 59 fun x3 h_1 => 
  sLoop (S := Value × Value) (fun nxt s h => betonylaw08_ScanFeeds_l1 R x0 x3 (fun x4' x5' h => nxt (x4', x5') h) s.1 s.2 h) ((.int .i64 0), (.int .i64 0)) h_1)
set_option maxRecDepth 100000 in
theorem betonylaw08_ScanFeeds_runs {x0 : Value} {h : Heap} {R : Value → Heap → Prop} (H : betonylaw08_ScanFeeds_S x0 h R) : betonylaw08_ScanFeeds_c x0 h R := by
  unfold betonylaw08_ScanFeeds_S at H
  refine runs_of (b := ⟨([x0, undef, undef, undef, undef, undef, undef, undef, undef, undef, undef, undef, undef, undef, undef, undef, undef, undef, undef, undef, undef, undef, undef, undef, undef, undef, undef, undef, undef, undef, undef, undef, undef, undef, undef, undef, undef, undef, undef, undef, undef, undef, undef, undef, undef, undef, undef, undef, undef, undef] ++ [undef, undef, undef, undef, undef, undef, undef, undef, undef, undef, undef, undef, undef, undef, undef, undef, undef, undef, undef, undef, undef, undef, undef, undef, undef, undef, undef, undef, undef, undef, undef, undef, undef, undef, undef, undef, undef, undef, undef, undef, undef, undef, undef, undef]).toArray, []⟩) Try.call8 Try.func8 rfl (by kernel_rfl) (fun w0 HA => ?_)
  refine wp_seq ?_
  refine lwp_list ?_
  refine ls_assign (x := (.bool false)) (by kernel_rfl) (by kernel_rfl) ?_
  refine ls_nil ?_
  refine then_normal ?_
  refine fr_eq (b := ⟨([x0, undef, (.bool false), undef, undef, undef, undef, undef, undef, undef, undef, undef, undef, undef, undef, undef, undef, undef, undef, undef, undef, undef, undef, undef, undef, undef, undef, undef, undef, undef, undef, undef, undef, undef, undef, undef, undef, undef, undef, undef, undef, undef, undef, undef, undef, undef, undef, undef, undef, undef] ++ [undef, undef, undef, undef, undef, undef, undef, undef, undef, undef, undef, undef, undef, undef, undef, undef, undef, undef, undef, undef, undef, undef, undef, undef, undef, undef, undef, undef, undef, undef, undef, undef, undef, undef, undef, undef, undef, undef, undef, undef, undef, undef, undef, undef]).toArray, []⟩) (by kernel_rfl) ?_
  refine wp_seq ?_
  refine wp_seq ?_
  refine lwp_list ?_
  refine ls_move (x := x0) (by kernel_rfl) (by kernel_rfl) ?_
  refine ls_p (d := some 13) (by kernel_rfl) (by kernel_rfl) (p_len Try.underlying54 (by kernel_rfl) H) (fun x13 H => ?_)
  refine ls_p (d := some 14) (by kernel_rfl) (by kernel_rfl) (p_sGt (by kernel_rfl) (by kernel_rfl) H) (fun x14 H => ?_)
  refine ls_nil ?_
  refine then_normal ?_
  refine fr_eq (b := ⟨([x0, undef, (.bool false), undef, undef, undef, undef, undef, undef, undef, undef, undef, x0, x13, x14, undef, undef, undef, undef, undef, undef, undef, undef, undef, undef, undef, undef, undef, undef, undef, undef, undef, undef, undef, undef, undef, undef, undef, undef, undef, undef, undef, undef, undef, undef, undef, undef, undef, undef, undef] ++ [undef, undef, undef, undef, undef, undef, undef, undef, undef, undef, undef, undef, undef, undef, undef, undef, undef, undef, undef, undef, undef, undef, undef, undef, undef, undef, undef, undef, undef, undef, undef, undef, undef, undef, undef, undef, undef, undef, undef, undef, undef, undef, undef, undef]).toArray, []⟩) (by kernel_rfl) ?_
  refine wp_if rfl H (fun H => ?_) (fun H => ?_)
  · refine wp_seq ?_
    refine lwp_list ?_
    refine ls_d (d := some 15) (by kernel_rfl) (by kernel_rfl) HA (d_call (by kernel_rfl) (by kernel_rfl) H) (fun x15 h w H HA => ?_)
    refine ls_assign (x := x15) (by kernel_rfl) (by kernel_rfl) ?_
    refine ls_nil ?_
    refine then_normal ?_
    refine fr_eq (b := ⟨([x0, undef, x15, undef, undef, undef, undef, undef, undef, undef, undef, undef, x0, x13, x14, x15, undef, undef, undef, undef, undef, undef, undef, undef, undef, undef, undef, undef, undef, undef, undef, undef, undef, undef, undef, undef, undef, undef, undef, undef, undef, undef, undef, undef, undef, undef, undef, undef, undef, undef] ++ [undef, undef, undef, undef, undef, undef, undef, undef, undef, undef, undef, undef, undef, undef, undef, undef, undef, undef, undef, undef, undef, undef, undef, undef, undef, undef, undef, undef, undef, undef, undef, undef, undef, undef, undef, undef, undef, undef, undef, undef, undef, undef, undef, undef]).toArray, []⟩) (by kernel_rfl) ?_
    refine wp_ret ?_
    refine then_ret ?_
    exact end1 (Try.results8) (by kernel_rfl) (by kernel_rfl) HA H _ (.inr rfl)
  · refine wp_skip ?_
    refine then_normal ?_
    refine fr_eq (b := ⟨([x0, undef, (.bool false), undef, undef, undef, undef, undef, undef, undef, undef, undef, x0, x13, x14, undef, undef, undef, undef, undef, undef, undef, undef, undef, undef, undef, undef, undef, undef, undef, undef, undef, undef, undef, undef, undef, undef, undef, undef, undef, undef, undef, undef, undef, undef, undef, undef, undef, undef, undef] ++ [undef, undef, undef, undef, undef, undef, undef, undef, undef, undef, undef, undef, undef, undef, undef, undef, undef, undef, undef, undef, undef, undef, undef, undef, undef, undef, undef, undef, undef, undef, undef, undef, undef, undef, undef, undef, undef, undef, undef, undef, undef, undef, undef, undef]).toArray, []⟩) (by kernel_rfl) ?_
    refine wp_seq ?_
    refine lwp_list ?_
    refine ls_d (d := some 3) (by kernel_rfl) (by kernel_rfl) HA (d_alloc Try.zeroValue59 H) (fun x3 h_1 w_1 H HA_1 => ?_)
    refine ls_nil ?_
    refine then_normal ?_
    refine fr_eq (b := ⟨([x0, undef, (.bool false), x3, undef, undef, undef, undef, undef, undef, undef, undef, x0, x13, x14, undef, undef, undef, undef, undef, undef, undef, undef, undef, undef, undef, undef, undef, undef, undef, undef, undef, undef, undef, undef, undef, undef, undef, undef, undef, undef, undef, undef, undef, undef, undef, undef, undef, undef, undef] ++ [undef, undef, undef, undef, undef, undef, undef, undef, undef, undef, undef, undef, undef, undef, undef, undef, undef, undef, undef, undef, undef, undef, undef, undef, undef, undef, undef, undef, undef, undef, undef, undef, undef, undef, undef, undef, undef, undef, undef, undef, undef, undef, undef, undef]).toArray, []⟩) (by kernel_rfl) ?_
    refine wp_seq ?_
    refine lwp_list ?_
    refine ls_assign (x := (.int .i64 0)) (by kernel_rfl) (by kernel_rfl) ?_
    refine ls_nil ?_
    refine then_normal ?_
    refine fr_eq (b := ⟨([x0, undef, (.bool false), x3, (.int .i64 0), undef, undef, undef, undef, undef, undef, undef, x0, x13, x14, undef, undef, undef, undef, undef, undef, undef, undef, undef, undef, undef, undef, undef, undef, undef, undef, undef, undef, undef, undef, undef, undef, undef, undef, undef, undef, undef, undef, undef, undef, undef, undef, undef, undef, undef] ++ [undef, undef, undef, undef, undef, undef, undef, undef, undef, undef, undef, undef, undef, undef, undef, undef, undef, undef, undef, undef, undef, undef, undef, undef, undef, undef, undef, undef, undef, undef, undef, undef, undef, undef, undef, undef, undef, undef, undef, undef, undef, undef, undef, undef]).toArray, []⟩) (by kernel_rfl) ?_
    refine wp_seq ?_
    refine wp_seq ?_
    refine lwp_list ?_
    refine ls_assign (x := (.int .i64 0)) (by kernel_rfl) (by kernel_rfl) ?_
    refine ls_nil ?_
    refine then_normal ?_
    refine fr_eq (b := ⟨([x0, undef, (.bool false), x3, (.int .i64 0), (.int .i64 0), undef, undef, undef, undef, undef, undef, x0, x13, x14, undef, undef, undef, undef, undef, undef, undef, undef, undef, undef, undef, undef, undef, undef, undef, undef, undef, undef, undef, undef, undef, undef, undef, undef, undef, undef, undef, undef, undef, undef, undef, undef, undef, undef, undef] ++ [undef, undef, undef, undef, undef, undef, undef, undef, undef, undef, undef, undef, undef, undef, undef, undef, undef, undef, undef, undef, undef, undef, undef, undef, undef, undef, undef, undef, undef, undef, undef, undef, undef, undef, undef, undef, undef, undef, undef, undef, undef, undef, undef, undef]).toArray, []⟩) (by kernel_rfl) ?_
    refine wp_block ?_
    obtain ⟨I, m, H0, HB⟩ := H
    refine wp_loop (fun a w => ∃ (D : Nat → Value) (x4 x5 : Value) (h_2 : Heap), a = ⟨([x0, undef, (D 0), x3, x4, x5, (D 1), (D 2), (D 3), (D 4), (D 5), (D 6), x0, x13, x14, undef, (D 7), (D 8), (D 9), (D 10), (D 11), (D 12), (D 13), (D 14), (D 15), (D 16), (D 17), (D 18), (D 19), (D 20), (D 21), (D 22), (D 23), (D 24), (D 25), (D 26), (D 27), (D 28), (D 29), (D 30), (D 31), (D 32), (D 33), (D 34), (D 35), (D 36), (D 37), (D 38), (D 39), (D 40)] ++ [(D 41), (D 42), (D 43), (D 44), (D 45), (D 46), (D 47), (D 48), (D 49), (D 50), (D 51), (D 52), (D 53), (D 54), (D 55), (D 56), (D 57), (D 58), (D 59), (D 60), (D 61), (D 62), (D 63), (D 64), (D 65), (D 66), (D 67), (D 68), (D 69), (D 70), (D 71), (D 72), (D 73), (D 74), (D 75), (D 76), (D 77), (D 78), (D 79), (D 80), (D 81), (D 82), (D 83), undef]).toArray, []⟩ ∧ At w0 w h_2 ∧ I (x4, x5) h_2) (fun a w => m ((a.tmps.getD 4 undef), (a.tmps.getD 5 undef)) w.heap) ?_ ?_
    · exact ⟨(fun i => ([(.bool false), undef, undef, undef, undef, undef, undef, undef, undef, undef, undef, undef, undef, undef, undef, undef, undef, undef, undef, undef, undef, undef, undef, undef, undef, undef, undef, undef, undef, undef, undef, undef, undef, undef, undef, undef, undef, undef, undef, undef, undef, undef, undef, undef, undef, undef, undef, undef, undef, undef] ++ [undef, undef, undef, undef, undef, undef, undef, undef, undef, undef, undef, undef, undef, undef, undef, undef, undef, undef, undef, undef, undef, undef, undef, undef, undef, undef, undef, undef, undef, undef, undef, undef, undef, undef]).getD i undef), (.int .i64 0), (.int .i64 0), h_1, by kernel_rfl, HA_1, H0⟩
    · rintro _ w_2 ⟨D, x4, x5, h_2, rfl, HA_2, HI⟩
      have H : betonylaw08_ScanFeeds_l1 R x0 x3 (fun x4' x5' h' => I (x4', x5') h' ∧ m (x4', x5') h' < m (x4, x5) h_2) x4 x5 h_2 := HB (x4, x5) h_2 HI
      clear HB H0 HI
      unfold betonylaw08_ScanFeeds_l1 at H
      refine wp_seq ?_
      refine wp_seq ?_
      refine lwp_list ?_
      refine ls_move (x := x5) (by kernel_rfl) (by kernel_rfl) ?_
      refine ls_move (x := x0) (by kernel_rfl) (by kernel_rfl) ?_
      refine ls_p (d := some 18) (by kernel_rfl) (by kernel_rfl) (p_len Try.underlying54 (by kernel_rfl) H) (fun x18 H => ?_)
      refine ls_p (d := some 19) (by kernel_rfl) (by kernel_rfl) (p_sLt (by kernel_rfl) (by kernel_rfl) H) (fun x19 H => ?_)
      refine ls_nil ?_
      refine then_normal ?_
      refine fr_eq (b := ⟨([x0, undef, (D 0), x3, x4, x5, (D 1), (D 2), (D 3), (D 4), (D 5), (D 6), x0, x13, x14, undef, x5, x0, x18, x19, (D 11), (D 12), (D 13), (D 14), (D 15), (D 16), (D 17), (D 18), (D 19), (D 20), (D 21), (D 22), (D 23), (D 24), (D 25), (D 26), (D 27), (D 28), (D 29), (D 30), (D 31), (D 32), (D 33), (D 34), (D 35), (D 36), (D 37), (D 38), (D 39), (D 40)] ++ [(D 41), (D 42), (D 43), (D 44), (D 45), (D 46), (D 47), (D 48), (D 49), (D 50), (D 51), (D 52), (D 53), (D 54), (D 55), (D 56), (D 57), (D 58), (D 59), (D 60), (D 61), (D 62), (D 63), (D 64), (D 65), (D 66), (D 67), (D 68), (D 69), (D 70), (D 71), (D 72), (D 73), (D 74), (D 75), (D 76), (D 77), (D 78), (D 79), (D 80), (D 81), (D 82), (D 83), undef]).toArray, []⟩) (by kernel_rfl) ?_
      refine wp_if rfl H (fun H => ?_) (fun H => ?_)
      · refine wp_skip ?_
        refine then_normal ?_
        refine fr_eq (b := ⟨([x0, undef, (D 0), x3, x4, x5, (D 1), (D 2), (D 3), (D 4), (D 5), (D 6), x0, x13, x14, undef, x5, x0, x18, x19, (D 11), (D 12), (D 13), (D 14), (D 15), (D 16), (D 17), (D 18), (D 19), (D 20), (D 21), (D 22), (D 23), (D 24), (D 25), (D 26), (D 27), (D 28), (D 29), (D 30), (D 31), (D 32), (D 33), (D 34), (D 35), (D 36), (D 37), (D 38), (D 39), (D 40)] ++ [(D 41), (D 42), (D 43), (D 44), (D 45), (D 46), (D 47), (D 48), (D 49), (D 50), (D 51), (D 52), (D 53), (D 54), (D 55), (D 56), (D 57), (D 58), (D 59), (D 60), (D 61), (D 62), (D 63), (D 64), (D 65), (D 66), (D 67), (D 68), (D 69), (D 70), (D 71), (D 72), (D 73), (D 74), (D 75), (D 76), (D 77), (D 78), (D 79), (D 80), (D 81), (D 82), (D 83), undef]).toArray, []⟩) (by kernel_rfl) ?_
        refine wp_seq ?_
        refine wp_block ?_
        refine wp_seq ?_
        refine lwp_list ?_
        refine ls_move (x := x0) (by kernel_rfl) (by kernel_rfl) ?_
        refine ls_move (x := x5) (by kernel_rfl) (by kernel_rfl) ?_
        refine ls_p (d := some 24) (by kernel_rfl) (by kernel_rfl) (p_ixs Try.underlying54 Try.sizeOf5 (by kernel_rfl) (by kernel_rfl) H) (fun x24 H => ?_)
        refine ls_y (d := some 25) (by kernel_rfl) (by kernel_rfl) HA_2 (y_ld Try.isAgg5 (by kernel_rfl) H) (fun x25 H => ?_)
        refine ls_p (d := some 26) (by kernel_rfl) (by kernel_rfl) (p_conv Try.underlying5 Try.underlying3 (by kernel_rfl) H) (fun x26 H => ?_)
        refine ls_p (d := some 27) (by kernel_rfl) (by kernel_rfl) (p_rem (by kernel_rfl) (by kernel_rfl) H) (fun x27 H => ?_)
        refine ls_fr (b := ⟨([x0, undef, (D 0), x3, x4, x5, (D 1), (D 2), (D 3), (D 4), (D 5), (D 6), x0, x13, x14, undef, x5, x0, x18, x19, (D 11), (D 12), x0, x5, x24, x25, x26, x27, (D 19), (D 20), (D 21), (D 22), (D 23), (D 24), (D 25), (D 26), (D 27), (D 28), (D 29), (D 30), (D 31), (D 32), (D 33), (D 34), (D 35), (D 36), (D 37), (D 38), (D 39), (D 40)] ++ [(D 41), (D 42), (D 43), (D 44), (D 45), (D 46), (D 47), (D 48), (D 49), (D 50), (D 51), (D 52), (D 53), (D 54), (D 55), (D 56), (D 57), (D 58), (D 59), (D 60), (D 61), (D 62), (D 63), (D 64), (D 65), (D 66), (D 67), (D 68), (D 69), (D 70), (D 71), (D 72), (D 73), (D 74), (D 75), (D 76), (D 77), (D 78), (D 79), (D 80), (D 81), (D 82), (D 83), undef]).toArray, []⟩) (by kernel_rfl) ?_
        refine ls_assign (x := x27) (by kernel_rfl) (by kernel_rfl) ?_
        refine ls_nil ?_
        refine then_normal ?_
        refine fr_eq (b := ⟨([x0, undef, (D 0), x3, x4, x5, x27, (D 2), (D 3), (D 4), (D 5), (D 6), x0, x13, x14, undef, x5, x0, x18, x19, (D 11), (D 12), x0, x5, x24, x25, x26, x27, (D 19), (D 20), (D 21), (D 22), (D 23), (D 24), (D 25), (D 26), (D 27), (D 28), (D 29), (D 30), (D 31), (D 32), (D 33), (D 34), (D 35), (D 36), (D 37), (D 38), (D 39), (D 40)] ++ [(D 41), (D 42), (D 43), (D 44), (D 45), (D 46), (D 47), (D 48), (D 49), (D 50), (D 51), (D 52), (D 53), (D 54), (D 55), (D 56), (D 57), (D 58), (D 59), (D 60), (D 61), (D 62), (D 63), (D 64), (D 65), (D 66), (D 67), (D 68), (D 69), (D 70), (D 71), (D 72), (D 73), (D 74), (D 75), (D 76), (D 77), (D 78), (D 79), (D 80), (D 81), (D 82), (D 83), undef]).toArray, []⟩) (by kernel_rfl) ?_
        refine wp_seq ?_
        refine lwp_list ?_
        refine ls_move (x := x0) (by kernel_rfl) (by kernel_rfl) ?_
        refine ls_move (x := x5) (by kernel_rfl) (by kernel_rfl) ?_
        refine ls_p (d := some 31) (by kernel_rfl) (by kernel_rfl) (p_ixs Try.underlying54 Try.sizeOf5 (by kernel_rfl) (by kernel_rfl) H) (fun x31 H => ?_)
        refine ls_y (d := some 32) (by kernel_rfl) (by kernel_rfl) HA_2 (y_ld Try.isAgg5 (by kernel_rfl) H) (fun x32 H => ?_)
        refine ls_d (d := some 33) (by kernel_rfl) (by kernel_rfl) HA_2 (d_call (by kernel_rfl) (by kernel_rfl) H) (fun x33 h_3 w_3 H HA_3 => ?_)
        refine ls_move (x := x33) (by kernel_rfl) (by kernel_rfl) ?_
        refine ls_fr (b := ⟨([x0, undef, (D 0), x3, x4, x5, x27, (D 2), (D 3), (D 4), (D 5), (D 6), x0, x13, x14, undef, x5, x0, x18, x19, (D 11), (D 12), x0, x5, x24, x25, x26, x27, x33, x0, x5, x31, x32, x33, (D 25), (D 26), (D 27), (D 28), (D 29), (D 30), (D 31), (D 32), (D 33), (D 34), (D 35), (D 36), (D 37), (D 38), (D 39), (D 40)] ++ [(D 41), (D 42), (D 43), (D 44), (D 45), (D 46), (D 47), (D 48), (D 49), (D 50), (D 51), (D 52), (D 53), (D 54), (D 55), (D 56), (D 57), (D 58), (D 59), (D 60), (D 61), (D 62), (D 63), (D 64), (D 65), (D 66), (D 67), (D 68), (D 69), (D 70), (D 71), (D 72), (D 73), (D 74), (D 75), (D 76), (D 77), (D 78), (D 79), (D 80), (D 81), (D 82), (D 83), undef]).toArray, []⟩) (by kernel_rfl) ?_
        refine ls_p (d := some 34) (by kernel_rfl) (by kernel_rfl) (p_tup (by kernel_rfl) H) (fun x34 H => ?_)
        refine ls_p (d := some 35) (by kernel_rfl) (by kernel_rfl) (p_tup (by kernel_rfl) H) (fun x35 H => ?_)
        refine ls_d (d := some 7) (by kernel_rfl) (by kernel_rfl) HA_3 (d_alloc Try.zeroValue52 H) (fun x7 h_4 w_4 H HA_4 => ?_)
        refine ls_d (d := none) (by kernel_rfl) (by kernel_rfl) HA_4 (d_stn Try.sizeOf52 (by kernel_rfl) (by kernel_rfl) H) (fun _ h_5 w_5 H HA_5 => ?_)
        refine ls_assign (x := x35) (by kernel_rfl) (by kernel_rfl) ?_
        refine ls_nil ?_
        refine then_normal ?_
        refine fr_eq (b := ⟨([x0, undef, (D 0), x3, x4, x5, x27, x7, x35, (D 4), (D 5), (D 6), x0, x13, x14, undef, x5, x0, x18, x19, (D 11), (D 12), x0, x5, x24, x25, x26, x27, x33, x0, x5, x31, x32, x33, x34, x35, (D 27), (D 28), (D 29), (D 30), (D 31), (D 32), (D 33), (D 34), (D 35), (D 36), (D 37), (D 38), (D 39), (D 40)] ++ [(D 41), (D 42), (D 43), (D 44), (D 45), (D 46), (D 47), (D 48), (D 49), (D 50), (D 51), (D 52), (D 53), (D 54), (D 55), (D 56), (D 57), (D 58), (D 59), (D 60), (D 61), (D 62), (D 63), (D 64), (D 65), (D 66), (D 67), (D 68), (D 69), (D 70), (D 71), (D 72), (D 73), (D 74), (D 75), (D 76), (D 77), (D 78), (D 79), (D 80), (D 81), (D 82), (D 83), undef]).toArray, []⟩) (by kernel_rfl) ?_
        refine wp_seq ?_
        refine lwp_list ?_
        refine ls_move (x := x0) (by kernel_rfl) (by kernel_rfl) ?_
        refine ls_move (x := x5) (by kernel_rfl) (by kernel_rfl) ?_
        refine ls_p (d := some 38) (by kernel_rfl) (by kernel_rfl) (p_ixs Try.underlying54 Try.sizeOf5 (by kernel_rfl) (by kernel_rfl) H) (fun x38 H => ?_)
        refine ls_y (d := some 39) (by kernel_rfl) (by kernel_rfl) HA_5 (y_ld Try.isAgg5 (by kernel_rfl) H) (fun x39 H => ?_)
        refine ls_p (d := some 40) (by kernel_rfl) (by kernel_rfl) (p_sLt (by kernel_rfl) (by kernel_rfl) H) (fun x40 H => ?_)
        refine ls_move (x := x40) (by kernel_rfl) (by kernel_rfl) ?_
        refine ls_fr (b := ⟨([x0, undef, (D 0), x3, x4, x5, x27, x7, x35, (D 4), (D 5), (D 6), x0, x13, x14, undef, x5, x0, x18, x19, (D 11), (D 12), x0, x5, x24, x25, x26, x27, x33, x0, x5, x31, x32, x33, x34, x35, x0, x5, x38, x39, x40, x40, (D 33), (D 34), (D 35), (D 36), (D 37), (D 38), (D 39), (D 40)] ++ [(D 41), (D 42), (D 43), (D 44), (D 45), (D 46), (D 47), (D 48), (D 49), (D 50), (D 51), (D 52), (D 53), (D 54), (D 55), (D 56), (D 57), (D 58), (D 59), (D 60), (D 61), (D 62), (D 63), (D 64), (D 65), (D 66), (D 67), (D 68), (D 69), (D 70), (D 71), (D 72), (D 73), (D 74), (D 75), (D 76), (D 77), (D 78), (D 79), (D 80), (D 81), (D 82), (D 83), undef]).toArray, []⟩) (by kernel_rfl) ?_
        refine ls_andh [(), (), ()] (fun K a w => ∃ (D_1 : Nat → Value) (x44 : Value) (h_6 : Heap), a = ⟨([x0, undef, (D 0), x3, x4, x5, x27, x7, x35, (D 4), (D 5), (D 6), x0, x13, x14, undef, x5, x0, x18, x19, (D 11), (D 12), x0, x5, x24, x25, x26, x27, x33, x0, x5, x31, x32, x33, x34, x35, x0, x5, x38, x39, x40, x40, (D_1 0), (D_1 1), x44, (D 36), (D 37), (D 38), (D 39), (D 40)] ++ [(D 41), (D 42), (D 43), (D 44), (D 45), (D 46), (D 47), (D 48), (D 49), (D 50), (D 51), (D 52), (D 53), (D 54), (D 55), (D 56), (D 57), (D 58), (D 59), (D 60), (D 61), (D 62), (D 63), (D 64), (D 65), (D 66), (D 67), (D 68), (D 69), (D 70), (D 71), (D 72), (D 73), (D 74), (D 75), (D 76), (D 77), (D 78), (D 79), (D 80), (D 81), (D 82), (D 83), undef]).toArray, []⟩ ∧ At w0 w h_6 ∧ K x44 h_6) H (fun hb_4 H => ?_) (fun hb_4 H => ?_) ?_
        · refine ls_move (x := x27) (by rw [hb_4]; kernel_rfl) (by kernel_rfl) ?_
          refine ls_d (d := some 43) (by kernel_rfl) (by rw [hb_4]; kernel_rfl) HA_5 (d_call (by kernel_rfl) (by kernel_rfl) H) (fun x43 h_11 w_15 H HA_15 => ?_)
          refine ls_pick_t (x := x43) (by kernel_rfl) (by rw [hb_4]; kernel_rfl) (by kernel_rfl) ?_
          refine ls_nil ?_
          refine then_normal ?_
          exact ⟨(fun i => ([x27, x43]).getD i undef), x43, h_11, by kernel_rfl, HA_15, H⟩
        · refine ls_skip (d := some 42) (by kernel_rfl) (by rw [hb_4]; kernel_rfl) ?_
          refine ls_skip (d := some 43) (by kernel_rfl) (by rw [hb_4]; kernel_rfl) ?_
          refine ls_pick_f (y := (.bool false)) (by kernel_rfl) (by rw [hb_4]; kernel_rfl) (by kernel_rfl) ?_
          refine ls_nil ?_
          refine then_normal ?_
          exact ⟨(fun i => ([undef, undef]).getD i undef), (.bool false), h_5, by kernel_rfl, HA_5, H⟩
        · rintro _ w_6 ⟨D_1, x44, h_6, rfl, HA_6, H⟩
          refine ls_assign (x := x44) (by kernel_rfl) (by kernel_rfl) ?_
          refine ls_nil ?_
          refine then_normal ?_
          refine fr_eq (b := ⟨([x0, undef, (D 0), x3, x4, x5, x27, x7, x35, x44, (D 5), (D 6), x0, x13, x14, undef, x5, x0, x18, x19, (D 11), (D 12), x0, x5, x24, x25, x26, x27, x33, x0, x5, x31, x32, x33, x34, x35, x0, x5, x38, x39, x40, x40, (D_1 0), (D_1 1), x44, (D 36), (D 37), (D 38), (D 39), (D 40)] ++ [(D 41), (D 42), (D 43), (D 44), (D 45), (D 46), (D 47), (D 48), (D 49), (D 50), (D 51), (D 52), (D 53), (D 54), (D 55), (D 56), (D 57), (D 58), (D 59), (D 60), (D 61), (D 62), (D 63), (D 64), (D 65), (D 66), (D 67), (D 68), (D 69), (D 70), (D 71), (D 72), (D 73), (D 74), (D 75), (D 76), (D 77), (D 78), (D 79), (D 80), (D 81), (D 82), (D 83), undef]).toArray, []⟩) (by kernel_rfl) ?_
          refine wp_seq ?_
          refine wp_seq ?_
          refine lwp_list ?_
          refine ls_move (x := x35) (by kernel_rfl) (by kernel_rfl) ?_
          refine ls_move (x := x44) (by kernel_rfl) (by kernel_rfl) ?_
          refine ls_p (d := some 47) (by kernel_rfl) (by kernel_rfl) (p_neqB Try.underlying4 (by kernel_rfl) (by kernel_rfl) H) (fun x47 H => ?_)
          refine ls_move (x := x47) (by kernel_rfl) (by kernel_rfl) ?_
          refine ls_or [(), (), (), (), (), (), (), (), ()] (fun K a w => ∃ (D_2 : Nat → Value) (x57 : Value), a = ⟨([x0, undef, (D 0), x3, x4, x5, x27, x7, x35, x44, (D 5), (D 6), x0, x13, x14, undef, x5, x0, x18, x19, (D 11), (D 12), x0, x5, x24, x25, x26, x27, x33, x0, x5, x31, x32, x33, x34, x35, x0, x5, x38, x39, x40, x40, (D_1 0), (D_1 1), x44, x35, x44, x47, x47, (D_2 0)] ++ [(D_2 1), (D_2 2), (D_2 3), (D_2 4), (D_2 5), (D_2 6), (D_2 7), x57, (D 49), (D 50), (D 51), (D 52), (D 53), (D 54), (D 55), (D 56), (D 57), (D 58), (D 59), (D 60), (D 61), (D 62), (D 63), (D 64), (D 65), (D 66), (D 67), (D 68), (D 69), (D 70), (D 71), (D 72), (D 73), (D 74), (D 75), (D 76), (D 77), (D 78), (D 79), (D 80), (D 81), (D 82), (D 83), undef]).toArray, []⟩ ∧ At w0 w h_6 ∧ K x57) H (fun hb_2 H => ?_) (fun hb_2 H => ?_) ?_
          · refine ls_move (x := x35) (by rw [hb_2]; kernel_rfl) (by kernel_rfl) ?_
            refine ls_move (x := x35) (by rw [hb_2]; kernel_rfl) (by kernel_rfl) ?_
            refine ls_fr (b := ⟨([x0, undef, (D 0), x3, x4, x5, x27, x7, x35, x44, (D 5), (D 6), x0, x13, x14, undef, x5, x0, x18, x19, (D 11), (D 12), x0, x5, x24, x25, x26, x27, x33, x0, x5, x31, x32, x33, x34, x35, x0, x5, x38, x39, x40, x40, (D_1 0), (D_1 1), x44, x35, x44, x47, x47, x35] ++ [x35, (D 42), (D 43), (D 44), (D 45), (D 46), (D 47), (D 48), (D 49), (D 50), (D 51), (D 52), (D 53), (D 54), (D 55), (D 56), (D 57), (D 58), (D 59), (D 60), (D 61), (D 62), (D 63), (D 64), (D 65), (D 66), (D 67), (D 68), (D 69), (D 70), (D 71), (D 72), (D 73), (D 74), (D 75), (D 76), (D 77), (D 78), (D 79), (D 80), (D 81), (D 82), (D 83), undef]).toArray, []⟩) (by kernel_rfl) ?_
            refine ls_and [(), (), (), (), (), ()] (fun K a w => ∃ (D_7 : Nat → Value) (x56 : Value), a = ⟨([x0, undef, (D 0), x3, x4, x5, x27, x7, x35, x44, (D 5), (D 6), x0, x13, x14, undef, x5, x0, x18, x19, (D 11), (D 12), x0, x5, x24, x25, x26, x27, x33, x0, x5, x31, x32, x33, x34, x35, x0, x5, x38, x39, x40, x40, (D_1 0), (D_1 1), x44, x35, x44, x47, x47, x35] ++ [x35, (D_7 0), (D_7 1), (D_7 2), (D_7 3), (D_7 4), x56, (D 48), (D 49), (D 50), (D 51), (D 52), (D 53), (D 54), (D 55), (D 56), (D 57), (D 58), (D 59), (D 60), (D 61), (D 62), (D 63), (D 64), (D 65), (D 66), (D 67), (D 68), (D 69), (D 70), (D 71), (D 72), (D 73), (D 74), (D 75), (D 76), (D 77), (D 78), (D 79), (D 80), (D 81), (D 82), (D 83), undef]).toArray, []⟩ ∧ At w0 w h_6 ∧ K x56) H (fun hb_3 H => ?_) (fun hb_3 H => ?_) ?_
            · refine ls_y (d := some 51) (by kernel_rfl) (by rw [hb_3]; kernel_rfl) HA_6 (y_ldn Try.isAgg52 Try.sizeOf52 (by kernel_rfl) H) (fun x51 H => ?_)
              refine ls_move (x := x27) (by rw [hb_3]; kernel_rfl) (by kernel_rfl) ?_
              refine ls_move (x := x4) (by rw [hb_3]; kernel_rfl) (by kernel_rfl) ?_
              refine ls_p (d := some 54) (by kernel_rfl) (by rw [hb_3]; kernel_rfl) (p_lit (pl := [(0, 1), (1, 1)]) Try.zeroValue52 Try.underlying52 ⟨(by kernel_rfl), Try.sizeOf3, (by kernel_rfl), Try.sizeOf3, trivial⟩ (by kernel_rfl) (by kernel_rfl) H) (fun x54 H => ?_)
              refine ls_p (d := some 55) (by kernel_rfl) (by rw [hb_3]; kernel_rfl) (p_neqAgg (eqT_52) (by kernel_rfl) (by kernel_rfl) H) (fun x55 H => ?_)
              refine ls_pick_t (x := x55) (by rw [hb_2]; kernel_rfl) (by rw [hb_3]; kernel_rfl) (by kernel_rfl) ?_
              refine ls_nil ?_
              refine then_normal ?_
              exact ⟨(fun i => ([x51, x27, x4, x54, x55]).getD i undef), x55, by kernel_rfl, HA_6, H⟩
            · refine ls_skip (d := some 51) (by kernel_rfl) (by rw [hb_3]; kernel_rfl) ?_
              refine ls_skip (d := some 52) (by kernel_rfl) (by rw [hb_3]; kernel_rfl) ?_
              refine ls_skip (d := some 53) (by kernel_rfl) (by rw [hb_3]; kernel_rfl) ?_
              refine ls_skip (d := some 54) (by kernel_rfl) (by rw [hb_3]; kernel_rfl) ?_
              refine ls_skip (d := some 55) (by kernel_rfl) (by rw [hb_3]; kernel_rfl) ?_
              refine ls_pick_f (y := (.bool false)) (by rw [hb_2]; kernel_rfl) (by rw [hb_3]; kernel_rfl) (by kernel_rfl) ?_
              refine ls_nil ?_
              refine then_normal ?_
              exact ⟨(fun i => ([undef, undef, undef, undef, undef]).getD i undef), (.bool false), by kernel_rfl, HA_6, H⟩
            · rintro _ w_14 ⟨D_7, x56, rfl, HA_14, H⟩
              refine ls_pick_f (y := x56) (by kernel_rfl) (by rw [hb_2]; kernel_rfl) (by kernel_rfl) ?_
              refine ls_nil ?_
              refine then_normal ?_
              exact ⟨(fun i => ([x35, x35, (D_7 0), (D_7 1), (D_7 2), (D_7 3), (D_7 4), x56]).getD i undef), x56, by kernel_rfl, HA_14, H⟩
          · refine ls_skip (d := some 49) (by kernel_rfl) (by rw [hb_2]; kernel_rfl) ?_
            refine ls_skip (d := some 50) (by kernel_rfl) (by rw [hb_2]; kernel_rfl) ?_
            refine ls_fr (b := ⟨([x0, undef, (D 0), x3, x4, x5, x27, x7, x35, x44, (D 5), (D 6), x0, x13, x14, undef, x5, x0, x18, x19, (D 11), (D 12), x0, x5, x24, x25, x26, x27, x33, x0, x5, x31, x32, x33, x34, x35, x0, x5, x38, x39, x40, x40, (D_1 0), (D_1 1), x44, x35, x44, x47, x47, undef] ++ [undef, (D 42), (D 43), (D 44), (D 45), (D 46), (D 47), (D 48), (D 49), (D 50), (D 51), (D 52), (D 53), (D 54), (D 55), (D 56), (D 57), (D 58), (D 59), (D 60), (D 61), (D 62), (D 63), (D 64), (D 65), (D 66), (D 67), (D 68), (D 69), (D 70), (D 71), (D 72), (D 73), (D 74), (D 75), (D 76), (D 77), (D 78), (D 79), (D 80), (D 81), (D 82), (D 83), undef]).toArray, []⟩) (by kernel_rfl) ?_
            refine ls_skip (d := some 51) (by kernel_rfl) (by kernel_rfl) ?_
            refine ls_skip (d := some 52) (by kernel_rfl) (by kernel_rfl) ?_
            refine ls_skip (d := some 53) (by kernel_rfl) (by kernel_rfl) ?_
            refine ls_skip (d := some 54) (by kernel_rfl) (by kernel_rfl) ?_
            refine ls_skip (d := some 55) (by kernel_rfl) (by kernel_rfl) ?_
            refine ls_skip (d := some 56) (by kernel_rfl) (by rw [hb_2]; kernel_rfl) ?_
            refine ls_fr (b := ⟨([x0, undef, (D 0), x3, x4, x5, x27, x7, x35, x44, (D 5), (D 6), x0, x13, x14, undef, x5, x0, x18, x19, (D 11), (D 12), x0, x5, x24, x25, x26, x27, x33, x0, x5, x31, x32, x33, x34, x35, x0, x5, x38, x39, x40, x40, (D_1 0), (D_1 1), x44, x35, x44, x47, x47, undef] ++ [undef, undef, undef, undef, undef, undef, undef, (D 48), (D 49), (D 50), (D 51), (D 52), (D 53), (D 54), (D 55), (D 56), (D 57), (D 58), (D 59), (D 60), (D 61), (D 62), (D 63), (D 64), (D 65), (D 66), (D 67), (D 68), (D 69), (D 70), (D 71), (D 72), (D 73), (D 74), (D 75), (D 76), (D 77), (D 78), (D 79), (D 80), (D 81), (D 82), (D 83), undef]).toArray, []⟩) (by kernel_rfl) ?_
            refine ls_pick_t (x := (.bool true)) (by kernel_rfl) (by rw [hb_2]; kernel_rfl) (by kernel_rfl) ?_
            refine ls_nil ?_
            refine then_normal ?_
            exact ⟨(fun i => ([undef, undef, undef, undef, undef, undef, undef, undef]).getD i undef), (.bool true), by kernel_rfl, HA_6, H⟩
          · rintro _ w_7 ⟨D_2, x57, rfl, HA_7, H⟩
            refine ls_move (x := x57) (by kernel_rfl) (by kernel_rfl) ?_
            refine ls_or [(), (), (), (), (), (), (), ()] (fun K a w => ∃ (D_3 : Nat → Value) (x66 : Value), a = ⟨([x0, undef, (D 0), x3, x4, x5, x27, x7, x35, x44, (D 5), (D 6), x0, x13, x14, undef, x5, x0, x18, x19, (D 11), (D 12), x0, x5, x24, x25, x26, x27, x33, x0, x5, x31, x32, x33, x34, x35, x0, x5, x38, x39, x40, x40, (D_1 0), (D_1 1), x44, x35, x44, x47, x47, (D_2 0)] ++ [(D_2 1), (D_2 2), (D_2 3), (D_2 4), (D_2 5), (D_2 6), (D_2 7), x57, x57, (D_3 0), (D_3 1), (D_3 2), (D_3 3), (D_3 4), (D_3 5), (D_3 6), x66, (D 58), (D 59), (D 60), (D 61), (D 62), (D 63), (D 64), (D 65), (D 66), (D 67), (D 68), (D 69), (D 70), (D 71), (D 72), (D 73), (D 74), (D 75), (D 76), (D 77), (D 78), (D 79), (D 80), (D 81), (D 82), (D 83), undef]).toArray, []⟩ ∧ At w0 w h_6 ∧ K x66) H (fun hb H => ?_) (fun hb H => ?_) ?_
            · refine ls_move (x := x35) (by rw [hb]; kernel_rfl) (by kernel_rfl) ?_
              refine ls_p (d := some 60) (by kernel_rfl) (by rw [hb]; kernel_rfl) (p_not (by kernel_rfl) H) (fun x60 H => ?_)
              refine ls_move (x := x60) (by rw [hb]; kernel_rfl) (by kernel_rfl) ?_
              refine ls_and [(), (), (), ()] (fun K a w => ∃ (D_6 : Nat → Value) (x65 : Value), a = ⟨([x0, undef, (D 0), x3, x4, x5, x27, x7, x35, x44, (D 5), (D 6), x0, x13, x14, undef, x5, x0, x18, x19, (D 11), (D 12), x0, x5, x24, x25, x26, x27, x33, x0, x5, x31, x32, x33, x34, x35, x0, x5, x38, x39, x40, x40, (D_1 0), (D_1 1), x44, x35, x44, x47, x47, (D_2 0)] ++ [(D_2 1), (D_2 2), (D_2 3), (D_2 4), (D_2 5), (D_2 6), (D_2 7), x57, x57, x35, x60, x60, (D_6 0), (D_6 1), (D_6 2), x65, (D 57), (D 58), (D 59), (D 60), (D 61), (D 62), (D 63), (D 64), (D 65), (D 66), (D 67), (D 68), (D 69), (D 70), (D 71), (D 72), (D 73), (D 74), (D 75), (D 76), (D 77), (D 78), (D 79), (D 80), (D 81), (D 82), (D 83), undef]).toArray, []⟩ ∧ At w0 w h_6 ∧ K x65) H (fun hb_1 H => ?_) (fun hb_1 H => ?_) ?_
              · refine ls_y (d := some 62) (by kernel_rfl) (by rw [hb_1]; kernel_rfl) HA_7 (y_ldn Try.isAgg52 Try.sizeOf52 (by kernel_rfl) H) (fun x62 H => ?_)
                refine ls_p (d := some 63) (by kernel_rfl) (by rw [hb_1]; kernel_rfl) (p_lit (pl := [(0, 1), (1, 1)]) Try.zeroValue52 Try.underlying52 ⟨(by kernel_rfl), Try.sizeOf3, (by kernel_rfl), Try.sizeOf3, trivial⟩ (by kernel_rfl) (by kernel_rfl) H) (fun x63 H => ?_)
                refine ls_fr (b := ⟨([x0, undef, (D 0), x3, x4, x5, x27, x7, x35, x44, (D 5), (D 6), x0, x13, x14, undef, x5, x0, x18, x19, (D 11), (D 12), x0, x5, x24, x25, x26, x27, x33, x0, x5, x31, x32, x33, x34, x35, x0, x5, x38, x39, x40, x40, (D_1 0), (D_1 1), x44, x35, x44, x47, x47, (D_2 0)] ++ [(D_2 1), (D_2 2), (D_2 3), (D_2 4), (D_2 5), (D_2 6), (D_2 7), x57, x57, x35, x60, x60, x62, x63, (D 55), (D 56), (D 57), (D 58), (D 59), (D 60), (D 61), (D 62), (D 63), (D 64), (D 65), (D 66), (D 67), (D 68), (D 69), (D 70), (D 71), (D 72), (D 73), (D 74), (D 75), (D 76), (D 77), (D 78), (D 79), (D 80), (D 81), (D 82), (D 83), undef]).toArray, []⟩) (by kernel_rfl) ?_
                refine ls_p (d := some 64) (by kernel_rfl) (by rw [hb_1]; kernel_rfl) (p_neqAgg (eqT_52) (by kernel_rfl) (by kernel_rfl) H) (fun x64 H => ?_)
                refine ls_pick_t (x := x64) (by rw [hb]; kernel_rfl) (by rw [hb_1]; kernel_rfl) (by kernel_rfl) ?_
                refine ls_nil ?_
                refine then_normal ?_
                exact ⟨(fun i => ([x62, x63, x64]).getD i undef), x64, by kernel_rfl, HA_7, H⟩
              · refine ls_skip (d := some 62) (by kernel_rfl) (by rw [hb_1]; kernel_rfl) ?_
                refine ls_skip (d := some 63) (by kernel_rfl) (by rw [hb_1]; kernel_rfl) ?_
                refine ls_fr (b := ⟨([x0, undef, (D 0), x3, x4, x5, x27, x7, x35, x44, (D 5), (D 6), x0, x13, x14, undef, x5, x0, x18, x19, (D 11), (D 12), x0, x5, x24, x25, x26, x27, x33, x0, x5, x31, x32, x33, x34, x35, x0, x5, x38, x39, x40, x40, (D_1 0), (D_1 1), x44, x35, x44, x47, x47, (D_2 0)] ++ [(D_2 1), (D_2 2), (D_2 3), (D_2 4), (D_2 5), (D_2 6), (D_2 7), x57, x57, x35, x60, x60, undef, undef, (D 55), (D 56), (D 57), (D 58), (D 59), (D 60), (D 61), (D 62), (D 63), (D 64), (D 65), (D 66), (D 67), (D 68), (D 69), (D 70), (D 71), (D 72), (D 73), (D 74), (D 75), (D 76), (D 77), (D 78), (D 79), (D 80), (D 81), (D 82), (D 83), undef]).toArray, []⟩) (by kernel_rfl) ?_
                refine ls_skip (d := some 64) (by kernel_rfl) (by rw [hb_1]; kernel_rfl) ?_
                refine ls_pick_f (y := (.bool false)) (by rw [hb]; kernel_rfl) (by rw [hb_1]; kernel_rfl) (by kernel_rfl) ?_
                refine ls_nil ?_
                refine then_normal ?_
                exact ⟨(fun i => ([undef, undef, undef]).getD i undef), (.bool false), by kernel_rfl, HA_7, H⟩
              · rintro _ w_13 ⟨D_6, x65, rfl, HA_13, H⟩
                refine ls_pick_f (y := x65) (by kernel_rfl) (by rw [hb]; kernel_rfl) (by kernel_rfl) ?_
                refine ls_nil ?_
                refine then_normal ?_
                exact ⟨(fun i => ([x35, x60, x60, (D_6 0), (D_6 1), (D_6 2), x65]).getD i undef), x65, by kernel_rfl, HA_13, H⟩
            · refine ls_skip (d := some 59) (by kernel_rfl) (by rw [hb]; kernel_rfl) ?_
              refine ls_skip (d := some 60) (by kernel_rfl) (by rw [hb]; kernel_rfl) ?_
              refine ls_skip (d := some 61) (by kernel_rfl) (by rw [hb]; kernel_rfl) ?_
              refine ls_skip (d := some 62) (by kernel_rfl) (by kernel_rfl) ?_
              refine ls_skip (d := some 63) (by kernel_rfl) (by kernel_rfl) ?_
              refine ls_fr (b := ⟨([x0, undef, (D 0), x3, x4, x5, x27, x7, x35, x44, (D 5), (D 6), x0, x13, x14, undef, x5, x0, x18, x19, (D 11), (D 12), x0, x5, x24, x25, x26, x27, x33, x0, x5, x31, x32, x33, x34, x35, x0, x5, x38, x39, x40, x40, (D_1 0), (D_1 1), x44, x35, x44, x47, x47, (D_2 0)] ++ [(D_2 1), (D_2 2), (D_2 3), (D_2 4), (D_2 5), (D_2 6), (D_2 7), x57, x57, undef, undef, undef, undef, undef, (D 55), (D 56), (D 57), (D 58), (D 59), (D 60), (D 61), (D 62), (D 63), (D 64), (D 65), (D 66), (D 67), (D 68), (D 69), (D 70), (D 71), (D 72), (D 73), (D 74), (D 75), (D 76), (D 77), (D 78), (D 79), (D 80), (D 81), (D 82), (D 83), undef]).toArray, []⟩) (by kernel_rfl) ?_
              refine ls_skip (d := some 64) (by kernel_rfl) (by kernel_rfl) ?_
              refine ls_skip (d := some 65) (by kernel_rfl) (by rw [hb]; kernel_rfl) ?_
              refine ls_pick_t (x := (.bool true)) (by kernel_rfl) (by rw [hb]; kernel_rfl) (by kernel_rfl) ?_
              refine ls_nil ?_
              refine then_normal ?_
              exact ⟨(fun i => ([undef, undef, undef, undef, undef, undef, undef]).getD i undef), (.bool true), by kernel_rfl, HA_7, H⟩
            · rintro _ w_8 ⟨D_3, x66, rfl, HA_8, H⟩
              refine ls_nil ?_
              refine then_normal ?_
              refine fr_eq (b := ⟨([x0, undef, (D 0), x3, x4, x5, x27, x7, x35, x44, (D 5), (D 6), x0, x13, x14, undef, x5, x0, x18, x19, (D 11), (D 12), x0, x5, x24, x25, x26, x27, x33, x0, x5, x31, x32, x33, x34, x35, x0, x5, x38, x39, x40, x40, (D_1 0), (D_1 1), x44, x35, x44, x47, x47, (D_2 0)] ++ [(D_2 1), (D_2 2), (D_2 3), (D_2 4), (D_2 5), (D_2 6), (D_2 7), x57, x57, (D_3 0), (D_3 1), (D_3 2), (D_3 3), (D_3 4), (D_3 5), (D_3 6), x66, (D 58), (D 59), (D 60), (D 61), (D 62), (D 63), (D 64), (D 65), (D 66), (D 67), (D 68), (D 69), (D 70), (D 71), (D 72), (D 73), (D 74), (D 75), (D 76), (D 77), (D 78), (D 79), (D 80), (D 81), (D 82), (D 83), undef]).toArray, []⟩) (by kernel_rfl) ?_
              refine wp_if rfl H (fun H => ?_) (fun H => ?_)
              · refine wp_seq ?_
                refine lwp_list ?_
                refine ls_assign (x := (.bool false)) (by kernel_rfl) (by kernel_rfl) ?_
                refine ls_nil ?_
                refine then_normal ?_
                refine fr_eq (b := ⟨([x0, undef, (.bool false), x3, x4, x5, x27, x7, x35, x44, (D 5), (D 6), x0, x13, x14, undef, x5, x0, x18, x19, (D 11), (D 12), x0, x5, x24, x25, x26, x27, x33, x0, x5, x31, x32, x33, x34, x35, x0, x5, x38, x39, x40, x40, (D_1 0), (D_1 1), x44, x35, x44, x47, x47, (D_2 0)] ++ [(D_2 1), (D_2 2), (D_2 3), (D_2 4), (D_2 5), (D_2 6), (D_2 7), x57, x57, (D_3 0), (D_3 1), (D_3 2), (D_3 3), (D_3 4), (D_3 5), (D_3 6), x66, (D 58), (D 59), (D 60), (D 61), (D 62), (D 63), (D 64), (D 65), (D 66), (D 67), (D 68), (D 69), (D 70), (D 71), (D 72), (D 73), (D 74), (D 75), (D 76), (D 77), (D 78), (D 79), (D 80), (D 81), (D 82), (D 83), undef]).toArray, []⟩) (by kernel_rfl) ?_
                refine wp_ret ?_
                refine then_ret ?_
                refine block_ret ?_
                refine then_ret ?_
                refine then_ret ?_
                refine block_ret ?_
                refine then_ret ?_
                exact end1 (Try.results8) (by kernel_rfl) (by kernel_rfl) HA_8 H _ (.inr rfl)
              · refine wp_skip ?_
                refine then_normal ?_
                refine fr_eq (b := ⟨([x0, undef, (D 0), x3, x4, x5, x27, x7, x35, x44, (D 5), (D 6), x0, x13, x14, undef, x5, x0, x18, x19, (D 11), (D 12), x0, x5, x24, x25, x26, x27, x33, x0, x5, x31, x32, x33, x34, x35, x0, x5, x38, x39, x40, x40, (D_1 0), (D_1 1), x44, x35, x44, x47, x47, (D_2 0)] ++ [(D_2 1), (D_2 2), (D_2 3), (D_2 4), (D_2 5), (D_2 6), (D_2 7), x57, x57, (D_3 0), (D_3 1), (D_3 2), (D_3 3), (D_3 4), (D_3 5), (D_3 6), x66, (D 58), (D 59), (D 60), (D 61), (D 62), (D 63), (D 64), (D 65), (D 66), (D 67), (D 68), (D 69), (D 70), (D 71), (D 72), (D 73), (D 74), (D 75), (D 76), (D 77), (D 78), (D 79), (D 80), (D 81), (D 82), (D 83), undef]).toArray, []⟩) (by kernel_rfl) ?_
                refine wp_seq ?_
                refine wp_seq ?_
                refine lwp_list ?_
                refine ls_assign (x := (.int .i64 0)) (by kernel_rfl) (by kernel_rfl) ?_
                refine ls_nil ?_
                refine then_normal ?_
                refine fr_eq (b := ⟨([x0, undef, (D 0), x3, x4, x5, x27, x7, x35, x44, (.int .i64 0), (D 6), x0, x13, x14, undef, x5, x0, x18, x19, (D 11), (D 12), x0, x5, x24, x25, x26, x27, x33, x0, x5, x31, x32, x33, x34, x35, x0, x5, x38, x39, x40, x40, (D_1 0), (D_1 1), x44, x35, x44, x47, x47, (D_2 0)] ++ [(D_2 1), (D_2 2), (D_2 3), (D_2 4), (D_2 5), (D_2 6), (D_2 7), x57, x57, (D_3 0), (D_3 1), (D_3 2), (D_3 3), (D_3 4), (D_3 5), (D_3 6), x66, (D 58), (D 59), (D 60), (D 61), (D 62), (D 63), (D 64), (D 65), (D 66), (D 67), (D 68), (D 69), (D 70), (D 71), (D 72), (D 73), (D 74), (D 75), (D 76), (D 77), (D 78), (D 79), (D 80), (D 81), (D 82), (D 83), undef]).toArray, []⟩) (by kernel_rfl) ?_
                refine wp_block ?_
                obtain ⟨I_1, m_1, H0, HB⟩ := H
                refine wp_loop (fun a w => ∃ (D_4 : Nat → Value) (x4_1 x10 : Value) (h_7 : Heap), a = ⟨([x0, undef, (D 0), x3, x4_1, x5, x27, x7, x35, x44, x10, (D_4 0), x0, x13, x14, undef, x5, x0, x18, x19, (D 11), (D 12), x0, x5, x24, x25, x26, x27, x33, x0, x5, x31, x32, x33, x34, x35, x0, x5, x38, x39, x40, x40, (D_1 0), (D_1 1), x44, x35, x44, x47, x47, (D_2 0)] ++ [(D_2 1), (D_2 2), (D_2 3), (D_2 4), (D_2 5), (D_2 6), (D_2 7), x57, x57, (D_3 0), (D_3 1), (D_3 2), (D_3 3), (D_3 4), (D_3 5), (D_3 6), x66, (D_4 1), (D_4 2), (D_4 3), (D_4 4), (D_4 5), (D_4 6), (D_4 7), (D_4 8), (D_4 9), (D_4 10), (D_4 11), (D_4 12), (D_4 13), (D_4 14), (D_4 15), (D_4 16), (D_4 17), (D_4 18), (D_4 19), (D_4 20), (D_4 21), (D_4 22), (D_4 23), (D 81), (D 82), (D 83), undef]).toArray, []⟩ ∧ At w0 w h_7 ∧ I_1 (x4_1, x10) h_7) (fun a w => m_1 ((a.tmps.getD 4 undef), (a.tmps.getD 10 undef)) w.heap) ?_ ?_
                · exact ⟨(fun i => ([(D 6), (D 58), (D 59), (D 60), (D 61), (D 62), (D 63), (D 64), (D 65), (D 66), (D 67), (D 68), (D 69), (D 70), (D 71), (D 72), (D 73), (D 74), (D 75), (D 76), (D 77), (D 78), (D 79), (D 80)]).getD i undef), x4, (.int .i64 0), h_6, by kernel_rfl, HA_8, H0⟩
                · rintro _ w_9 ⟨D_4, x4_1, x10, h_7, rfl, HA_9, HI⟩
                  have H : betonylaw08_ScanFeeds_l2 R (fun x4' x5' h' => I (x4', x5') h' ∧ m (x4', x5') h' < m (x4, x5) h_2) x0 x3 x5 x27 (fun x4_1' x10' h' => I_1 (x4_1', x10') h' ∧ m_1 (x4_1', x10') h' < m_1 (x4_1, x10) h_7) x4_1 x10 h_7 := HB (x4_1, x10) h_7 HI
                  clear HB H0 HI
                  unfold betonylaw08_ScanFeeds_l2 at H
                  refine wp_seq ?_
                  refine wp_seq ?_
                  refine lwp_list ?_
                  refine ls_move (x := x10) (by kernel_rfl) (by kernel_rfl) ?_
                  refine ls_p (d := some 68) (by kernel_rfl) (by kernel_rfl) (p_sLt (by kernel_rfl) (by kernel_rfl) H) (fun x68 H => ?_)
                  refine ls_nil ?_
                  refine then_normal ?_
                  refine fr_eq (b := ⟨([x0, undef, (D 0), x3, x4_1, x5, x27, x7, x35, x44, x10, (D_4 0), x0, x13, x14, undef, x5, x0, x18, x19, (D 11), (D 12), x0, x5, x24, x25, x26, x27, x33, x0, x5, x31, x32, x33, x34, x35, x0, x5, x38, x39, x40, x40, (D_1 0), (D_1 1), x44, x35, x44, x47, x47, (D_2 0)] ++ [(D_2 1), (D_2 2), (D_2 3), (D_2 4), (D_2 5), (D_2 6), (D_2 7), x57, x57, (D_3 0), (D_3 1), (D_3 2), (D_3 3), (D_3 4), (D_3 5), (D_3 6), x66, x10, x68, (D_4 3), (D_4 4), (D_4 5), (D_4 6), (D_4 7), (D_4 8), (D_4 9), (D_4 10), (D_4 11), (D_4 12), (D_4 13), (D_4 14), (D_4 15), (D_4 16), (D_4 17), (D_4 18), (D_4 19), (D_4 20), (D_4 21), (D_4 22), (D_4 23), (D 81), (D 82), (D 83), undef]).toArray, []⟩) (by kernel_rfl) ?_
                  refine wp_if rfl H (fun H => ?_) (fun H => ?_)
                  · refine wp_skip ?_
                    refine then_normal ?_
                    refine fr_eq (b := ⟨([x0, undef, (D 0), x3, x4_1, x5, x27, x7, x35, x44, x10, (D_4 0), x0, x13, x14, undef, x5, x0, x18, x19, (D 11), (D 12), x0, x5, x24, x25, x26, x27, x33, x0, x5, x31, x32, x33, x34, x35, x0, x5, x38, x39, x40, x40, (D_1 0), (D_1 1), x44, x35, x44, x47, x47, (D_2 0)] ++ [(D_2 1), (D_2 2), (D_2 3), (D_2 4), (D_2 5), (D_2 6), (D_2 7), x57, x57, (D_3 0), (D_3 1), (D_3 2), (D_3 3), (D_3 4), (D_3 5), (D_3 6), x66, x10, x68, (D_4 3), (D_4 4), (D_4 5), (D_4 6), (D_4 7), (D_4 8), (D_4 9), (D_4 10), (D_4 11), (D_4 12), (D_4 13), (D_4 14), (D_4 15), (D_4 16), (D_4 17), (D_4 18), (D_4 19), (D_4 20), (D_4 21), (D_4 22), (D_4 23), (D 81), (D 82), (D 83), undef]).toArray, []⟩) (by kernel_rfl) ?_
                    refine wp_seq ?_
                    refine wp_join (fun a w => ∃ (D_5 : Nat → Value) (x4_2 : Value) (h_8 : Heap), a = ⟨([x0, undef, (D 0), x3, x4_2, x5, x27, x7, x35, x44, x10, (D_5 0), x0, x13, x14, undef, x5, x0, x18, x19, (D 11), (D 12), x0, x5, x24, x25, x26, x27, x33, x0, x5, x31, x32, x33, x34, x35, x0, x5, x38, x39, x40, x40, (D_1 0), (D_1 1), x44, x35, x44, x47, x47, (D_2 0)] ++ [(D_2 1), (D_2 2), (D_2 3), (D_2 4), (D_2 5), (D_2 6), (D_2 7), x57, x57, (D_3 0), (D_3 1), (D_3 2), (D_3 3), (D_3 4), (D_3 5), (D_3 6), x66, x10, x68, (D_4 3), (D_4 4), (D_5 1), (D_5 2), (D_5 3), (D_5 4), (D_5 5), (D_5 6), (D_5 7), (D_5 8), (D_5 9), (D_5 10), (D_5 11), (D_5 12), (D_5 13), (D_5 14), (D_5 15), (D_5 16), (D_5 17), (D_5 18), (D_5 19), (D 81), (D 82), (D 83), undef]).toArray, []⟩ ∧ At w0 w h_8 ∧ betonylaw08_ScanFeeds_j3 (fun x4_1' x10' h' => I_1 (x4_1', x10') h' ∧ m_1 (x4_1', x10') h' < m_1 (x4_1, x10) h_7) x10 x4_2 h_8) ?_ ?_
                    · refine wp_block ?_
                      refine wp_seq ?_
                      refine lwp_list ?_
                      refine ls_d (d := some 71) (by kernel_rfl) (by kernel_rfl) HA_9 (d_slit (zc := #[.int .i64 0]) Try.underlying63 Try.sizeOf3 (by decide) (.inr ⟨by decide, _, Try.zeroValue3, (by kernel_rfl)⟩) (by kernel_rfl) (by kernel_rfl) H) (fun x71 h_9 w_11 H HA_11 => ?_)
                      refine ls_move (x := x10) (by kernel_rfl) (by kernel_rfl) ?_
                      refine ls_p (d := some 73) (by kernel_rfl) (by kernel_rfl) (p_ixs Try.underlying63 Try.sizeOf3 (by kernel_rfl) (by kernel_rfl) H) (fun x73 H => ?_)
                      refine ls_y (d := some 74) (by kernel_rfl) (by kernel_rfl) HA_11 (y_ld Try.isAgg3 (by kernel_rfl) H) (fun x74 H => ?_)
                      refine ls_assign (x := x74) (by kernel_rfl) (by kernel_rfl) ?_
                      refine ls_nil ?_
                      refine then_normal ?_
                      refine fr_eq (b := ⟨([x0, undef, (D 0), x3, x4_1, x5, x27, x7, x35, x44, x10, x74, x0, x13, x14, undef, x5, x0, x18, x19, (D 11), (D 12), x0, x5, x24, x25, x26, x27, x33, x0, x5, x31, x32, x33, x34, x35, x0, x5, x38, x39, x40, x40, (D_1 0), (D_1 1), x44, x35, x44, x47, x47, (D_2 0)] ++ [(D_2 1), (D_2 2), (D_2 3), (D_2 4), (D_2 5), (D_2 6), (D_2 7), x57, x57, (D_3 0), (D_3 1), (D_3 2), (D_3 3), (D_3 4), (D_3 5), (D_3 6), x66, x10, x68, (D_4 3), (D_4 4), x71, x10, x73, x74, (D_4 9), (D_4 10), (D_4 11), (D_4 12), (D_4 13), (D_4 14), (D_4 15), (D_4 16), (D_4 17), (D_4 18), (D_4 19), (D_4 20), (D_4 21), (D_4 22), (D_4 23), (D 81), (D 82), (D 83), undef]).toArray, []⟩) (by kernel_rfl) ?_
                      refine wp_seq ?_
                      refine lwp_list ?_
                      refine ls_move (x := x27) (by kernel_rfl) (by kernel_rfl) ?_
                      refine ls_move (x := x10) (by kernel_rfl) (by kernel_rfl) ?_
                      refine ls_p (d := some 77) (by kernel_rfl) (by kernel_rfl) (p_add (by kernel_rfl) (by kernel_rfl) H) (fun x77 H => ?_)
                      refine ls_p (d := some 78) (by kernel_rfl) (by kernel_rfl) (p_sEq (by kernel_rfl) (by kernel_rfl) H) (fun x78 H => ?_)
                      refine ls_nil ?_
                      refine then_normal ?_
                      refine fr_eq (b := ⟨([x0, undef, (D 0), x3, x4_1, x5, x27, x7, x35, x44, x10, x74, x0, x13, x14, undef, x5, x0, x18, x19, (D 11), (D 12), x0, x5, x24, x25, x26, x27, x33, x0, x5, x31, x32, x33, x34, x35, x0, x5, x38, x39, x40, x40, (D_1 0), (D_1 1), x44, x35, x44, x47, x47, (D_2 0)] ++ [(D_2 1), (D_2 2), (D_2 3), (D_2 4), (D_2 5), (D_2 6), (D_2 7), x57, x57, (D_3 0), (D_3 1), (D_3 2), (D_3 3), (D_3 4), (D_3 5), (D_3 6), x66, x10, x68, (D_4 3), (D_4 4), x71, x10, x73, x74, x27, x10, x77, x78, (D_4 13), (D_4 14), (D_4 15), (D_4 16), (D_4 17), (D_4 18), (D_4 19), (D_4 20), (D_4 21), (D_4 22), (D_4 23), (D 81), (D 82), (D 83), undef]).toArray, []⟩) (by kernel_rfl) ?_
                      refine wp_if rfl H (fun H => ?_) (fun H => ?_)
                      · refine wp_seq ?_
                        refine lwp_list ?_
                        refine ls_move (x := x4_1) (by kernel_rfl) (by kernel_rfl) ?_
                        refine ls_move (x := x74) (by kernel_rfl) (by kernel_rfl) ?_
                        refine ls_p (d := some 81) (by kernel_rfl) (by kernel_rfl) (p_bits (by decide) (by kernel_rfl) (by kernel_rfl) H) (fun x81 H => ?_)
                        refine ls_assign (x := x81) (by kernel_rfl) (by kernel_rfl) ?_
                        refine ls_nil ?_
                        refine then_normal ?_
                        refine fr_eq (b := ⟨([x0, undef, (D 0), x3, x81, x5, x27, x7, x35, x44, x10, x74, x0, x13, x14, undef, x5, x0, x18, x19, (D 11), (D 12), x0, x5, x24, x25, x26, x27, x33, x0, x5, x31, x32, x33, x34, x35, x0, x5, x38, x39, x40, x40, (D_1 0), (D_1 1), x44, x35, x44, x47, x47, (D_2 0)] ++ [(D_2 1), (D_2 2), (D_2 3), (D_2 4), (D_2 5), (D_2 6), (D_2 7), x57, x57, (D_3 0), (D_3 1), (D_3 2), (D_3 3), (D_3 4), (D_3 5), (D_3 6), x66, x10, x68, (D_4 3), (D_4 4), x71, x10, x73, x74, x27, x10, x77, x78, x4_1, x74, x81, (D_4 16), (D_4 17), (D_4 18), (D_4 19), (D_4 20), (D_4 21), (D_4 22), (D_4 23), (D 81), (D 82), (D 83), undef]).toArray, []⟩) (by kernel_rfl) ?_
                        refine wp_seq ?_
                        refine lwp_list ?_
                        refine ls_move (x := x0) (by kernel_rfl) (by kernel_rfl) ?_
                        refine ls_move (x := x5) (by kernel_rfl) (by kernel_rfl) ?_
                        refine ls_p (d := some 84) (by kernel_rfl) (by kernel_rfl) (p_ixs Try.underlying54 Try.sizeOf5 (by kernel_rfl) (by kernel_rfl) H) (fun x84 H => ?_)
                        refine ls_y (d := some 85) (by kernel_rfl) (by kernel_rfl) HA_11 (y_ld Try.isAgg5 (by kernel_rfl) H) (fun x85 H => ?_)
                        refine ls_p (d := some 86) (by kernel_rfl) (by kernel_rfl) (p_sLt (by kernel_rfl) (by kernel_rfl) H) (fun x86 H => ?_)
                        refine ls_nil ?_
                        refine then_normal ?_
                        refine fr_eq (b := ⟨([x0, undef, (D 0), x3, x81, x5, x27, x7, x35, x44, x10, x74, x0, x13, x14, undef, x5, x0, x18, x19, (D 11), (D 12), x0, x5, x24, x25, x26, x27, x33, x0, x5, x31, x32, x33, x34, x35, x0, x5, x38, x39, x40, x40, (D_1 0), (D_1 1), x44, x35, x44, x47, x47, (D_2 0)] ++ [(D_2 1), (D_2 2), (D_2 3), (D_2 4), (D_2 5), (D_2 6), (D_2 7), x57, x57, (D_3 0), (D_3 1), (D_3 2), (D_3 3), (D_3 4), (D_3 5), (D_3 6), x66, x10, x68, (D_4 3), (D_4 4), x71, x10, x73, x74, x27, x10, x77, x78, x4_1, x74, x81, x0, x5, x84, x85, x86, (D_4 21), (D_4 22), (D_4 23), (D 81), (D 82), (D 83), undef]).toArray, []⟩) (by kernel_rfl) ?_
                        refine wp_if rfl H (fun H => ?_) (fun H => ?_)
                        · refine lwp_list ?_
                          refine ls_move (x := x81) (by kernel_rfl) (by kernel_rfl) ?_
                          refine ls_move (x := x74) (by kernel_rfl) (by kernel_rfl) ?_
                          refine ls_p (d := some 89) (by kernel_rfl) (by kernel_rfl) (p_bits (by decide) (by kernel_rfl) (by kernel_rfl) H) (fun x89 H => ?_)
                          refine ls_assign (x := x89) (by kernel_rfl) (by kernel_rfl) ?_
                          refine ls_nil ?_
                          refine block_normal ?_
                          exact ⟨(fun i => ([x74, x71, x10, x73, x74, x27, x10, x77, x78, x4_1, x74, x81, x0, x5, x84, x85, x86, x81, x74, x89]).getD i undef), x89, h_9, by kernel_rfl, HA_11, H⟩
                        · refine wp_skip ?_
                          refine block_normal ?_
                          exact ⟨(fun i => ([x74, x71, x10, x73, x74, x27, x10, x77, x78, x4_1, x74, x81, x0, x5, x84, x85, x86, (D_4 21), (D_4 22), (D_4 23)]).getD i undef), x81, h_9, by kernel_rfl, HA_11, H⟩
                      · refine wp_skip ?_
                        refine block_normal ?_
                        exact ⟨(fun i => ([x74, x71, x10, x73, x74, x27, x10, x77, x78, (D_4 13), (D_4 14), (D_4 15), (D_4 16), (D_4 17), (D_4 18), (D_4 19), (D_4 20), (D_4 21), (D_4 22), (D_4 23)]).getD i undef), x4_1, h_9, by kernel_rfl, HA_11, H⟩
                    · rintro _ w_10 ⟨D_5, x4_2, h_8, rfl, HA_10, H⟩
                      unfold betonylaw08_ScanFeeds_j3 at H
                      refine then_normal ?_
                      refine fr_eq (b := ⟨([x0, undef, (D 0), x3, x4_2, x5, x27, x7, x35, x44, x10, (D_5 0), x0, x13, x14, undef, x5, x0, x18, x19, (D 11), (D 12), x0, x5, x24, x25, x26, x27, x33, x0, x5, x31, x32, x33, x34, x35, x0, x5, x38, x39, x40, x40, (D_1 0), (D_1 1), x44, x35, x44, x47, x47, (D_2 0)] ++ [(D_2 1), (D_2 2), (D_2 3), (D_2 4), (D_2 5), (D_2 6), (D_2 7), x57, x57, (D_3 0), (D_3 1), (D_3 2), (D_3 3), (D_3 4), (D_3 5), (D_3 6), x66, x10, x68, (D_4 3), (D_4 4), (D_5 1), (D_5 2), (D_5 3), (D_5 4), (D_5 5), (D_5 6), (D_5 7), (D_5 8), (D_5 9), (D_5 10), (D_5 11), (D_5 12), (D_5 13), (D_5 14), (D_5 15), (D_5 16), (D_5 17), (D_5 18), (D_5 19), (D 81), (D 82), (D 83), undef]).toArray, []⟩) (by kernel_rfl) ?_
                      refine lwp_list ?_
                      refine ls_move (x := x10) (by kernel_rfl) (by kernel_rfl) ?_
                      refine ls_p (d := some 70) (by kernel_rfl) (by kernel_rfl) (p_add (by kernel_rfl) (by kernel_rfl) H) (fun x70 H => ?_)
                      refine ls_assign (x := x70) (by kernel_rfl) (by kernel_rfl) ?_
                      refine ls_nil ?_
                      exact ⟨⟨(fun i => ([(D_5 0), x10, x68, x10, x70, (D_5 1), (D_5 2), (D_5 3), (D_5 4), (D_5 5), (D_5 6), (D_5 7), (D_5 8), (D_5 9), (D_5 10), (D_5 11), (D_5 12), (D_5 13), (D_5 14), (D_5 15), (D_5 16), (D_5 17), (D_5 18), (D_5 19)]).getD i undef), x4_2, x70, h_8, by kernel_rfl, HA_10, H.1⟩, loop_lt HA_10.heap HA_9.heap (by kernel_rfl) (by kernel_rfl) H.2⟩
                  · refine wp_exit ?_
                    refine then_exit ?_
                    refine then_exit ?_
                    refine block_exit ?_
                    refine then_normal ?_
                    refine fr_eq (b := ⟨([x0, undef, (D 0), x3, x4_1, x5, x27, x7, x35, x44, x10, (D_4 0), x0, x13, x14, undef, x5, x0, x18, x19, (D 11), (D 12), x0, x5, x24, x25, x26, x27, x33, x0, x5, x31, x32, x33, x34, x35, x0, x5, x38, x39, x40, x40, (D_1 0), (D_1 1), x44, x35, x44, x47, x47, (D_2 0)] ++ [(D_2 1), (D_2 2), (D_2 3), (D_2 4), (D_2 5), (D_2 6), (D_2 7), x57, x57, (D_3 0), (D_3 1), (D_3 2), (D_3 3), (D_3 4), (D_3 5), (D_3 6), x66, x10, x68, (D_4 3), (D_4 4), (D_4 5), (D_4 6), (D_4 7), (D_4 8), (D_4 9), (D_4 10), (D_4 11), (D_4 12), (D_4 13), (D_4 14), (D_4 15), (D_4 16), (D_4 17), (D_4 18), (D_4 19), (D_4 20), (D_4 21), (D_4 22), (D_4 23), (D 81), (D 82), (D 83), undef]).toArray, []⟩) (by kernel_rfl) ?_
                    refine wp_seq ?_
                    refine lwp_list ?_
                    refine ls_d (d := some 90) (by kernel_rfl) (by kernel_rfl) HA_9 (d_call (by kernel_rfl) (by kernel_rfl) H) (fun x90 h_10 w_12 H HA_12 => ?_)
                    refine ls_move (x := x4_1) (by kernel_rfl) (by kernel_rfl) ?_
                    refine ls_p (d := some 92) (by kernel_rfl) (by kernel_rfl) (p_sNe (by kernel_rfl) (by kernel_rfl) H) (fun x92 H => ?_)
                    refine ls_nil ?_
                    refine then_normal ?_
                    refine fr_eq (b := ⟨([x0, undef, (D 0), x3, x4_1, x5, x27, x7, x35, x44, x10, (D_4 0), x0, x13, x14, undef, x5, x0, x18, x19, (D 11), (D 12), x0, x5, x24, x25, x26, x27, x33, x0, x5, x31, x32, x33, x34, x35, x0, x5, x38, x39, x40, x40, (D_1 0), (D_1 1), x44, x35, x44, x47, x47, (D_2 0)] ++ [(D_2 1), (D_2 2), (D_2 3), (D_2 4), (D_2 5), (D_2 6), (D_2 7), x57, x57, (D_3 0), (D_3 1), (D_3 2), (D_3 3), (D_3 4), (D_3 5), (D_3 6), x66, x10, x68, (D_4 3), (D_4 4), (D_4 5), (D_4 6), (D_4 7), (D_4 8), (D_4 9), (D_4 10), (D_4 11), (D_4 12), (D_4 13), (D_4 14), (D_4 15), (D_4 16), (D_4 17), (D_4 18), (D_4 19), (D_4 20), (D_4 21), (D_4 22), (D_4 23), x90, x4_1, x92, undef]).toArray, []⟩) (by kernel_rfl) ?_
                    refine wp_if rfl H (fun H => ?_) (fun H => ?_)
                    · refine wp_seq ?_
                      refine lwp_list ?_
                      refine ls_assign (x := (.bool false)) (by kernel_rfl) (by kernel_rfl) ?_
                      refine ls_nil ?_
                      refine then_normal ?_
                      refine fr_eq (b := ⟨([x0, undef, (.bool false), x3, x4_1, x5, x27, x7, x35, x44, x10, (D_4 0), x0, x13, x14, undef, x5, x0, x18, x19, (D 11), (D 12), x0, x5, x24, x25, x26, x27, x33, x0, x5, x31, x32, x33, x34, x35, x0, x5, x38, x39, x40, x40, (D_1 0), (D_1 1), x44, x35, x44, x47, x47, (D_2 0)] ++ [(D_2 1), (D_2 2), (D_2 3), (D_2 4), (D_2 5), (D_2 6), (D_2 7), x57, x57, (D_3 0), (D_3 1), (D_3 2), (D_3 3), (D_3 4), (D_3 5), (D_3 6), x66, x10, x68, (D_4 3), (D_4 4), (D_4 5), (D_4 6), (D_4 7), (D_4 8), (D_4 9), (D_4 10), (D_4 11), (D_4 12), (D_4 13), (D_4 14), (D_4 15), (D_4 16), (D_4 17), (D_4 18), (D_4 19), (D_4 20), (D_4 21), (D_4 22), (D_4 23), x90, x4_1, x92, undef]).toArray, []⟩) (by kernel_rfl) ?_
                      refine wp_ret ?_
                      refine block_ret ?_
                      refine then_ret ?_
                      refine then_ret ?_
                      refine block_ret ?_
                      refine then_ret ?_
                      exact end1 (Try.results8) (by kernel_rfl) (by kernel_rfl) HA_12 H _ (.inr rfl)
                    · refine wp_skip ?_
                      refine block_normal ?_
                      refine then_normal ?_
                      refine fr_eq (b := ⟨([x0, undef, (D 0), x3, x4_1, x5, x27, x7, x35, x44, x10, (D_4 0), x0, x13, x14, undef, x5, x0, x18, x19, (D 11), (D 12), x0, x5, x24, x25, x26, x27, x33, x0, x5, x31, x32, x33, x34, x35, x0, x5, x38, x39, x40, x40, (D_1 0), (D_1 1), x44, x35, x44, x47, x47, (D_2 0)] ++ [(D_2 1), (D_2 2), (D_2 3), (D_2 4), (D_2 5), (D_2 6), (D_2 7), x57, x57, (D_3 0), (D_3 1), (D_3 2), (D_3 3), (D_3 4), (D_3 5), (D_3 6), x66, x10, x68, (D_4 3), (D_4 4), (D_4 5), (D_4 6), (D_4 7), (D_4 8), (D_4 9), (D_4 10), (D_4 11), (D_4 12), (D_4 13), (D_4 14), (D_4 15), (D_4 16), (D_4 17), (D_4 18), (D_4 19), (D_4 20), (D_4 21), (D_4 22), (D_4 23), x90, x4_1, x92, undef]).toArray, []⟩) (by kernel_rfl) ?_
                      refine lwp_list ?_
                      refine ls_move (x := x5) (by kernel_rfl) (by kernel_rfl) ?_
                      refine ls_p (d := some 21) (by kernel_rfl) (by kernel_rfl) (p_add (by kernel_rfl) (by kernel_rfl) H) (fun x21 H => ?_)
                      refine ls_assign (x := x21) (by kernel_rfl) (by kernel_rfl) ?_
                      refine ls_nil ?_
                      exact ⟨⟨(fun i => ([(D 0), x27, x7, x35, x44, x10, (D_4 0), x5, x0, x18, x19, x5, x21, x0, x5, x24, x25, x26, x27, x33, x0, x5, x31, x32, x33, x34, x35, x0, x5, x38, x39, x40, x40, (D_1 0), (D_1 1), x44, x35, x44, x47, x47, (D_2 0), (D_2 1), (D_2 2), (D_2 3), (D_2 4), (D_2 5), (D_2 6), (D_2 7), x57, x57] ++ [(D_3 0), (D_3 1), (D_3 2), (D_3 3), (D_3 4), (D_3 5), (D_3 6), x66, x10, x68, (D_4 3), (D_4 4), (D_4 5), (D_4 6), (D_4 7), (D_4 8), (D_4 9), (D_4 10), (D_4 11), (D_4 12), (D_4 13), (D_4 14), (D_4 15), (D_4 16), (D_4 17), (D_4 18), (D_4 19), (D_4 20), (D_4 21), (D_4 22), (D_4 23), x90, x4_1, x92]).getD i undef), x4_1, x21, h_10, by kernel_rfl, HA_12, H.1⟩, loop_lt HA_12.heap HA_2.heap (by kernel_rfl) (by kernel_rfl) H.2⟩
      · refine wp_exit ?_
        refine then_exit ?_
        refine then_exit ?_
        refine block_exit ?_
        refine then_normal ?_
        refine fr_eq (b := ⟨([x0, undef, (D 0), x3, x4, x5, (D 1), (D 2), (D 3), (D 4), (D 5), (D 6), x0, x13, x14, undef, x5, x0, x18, x19, (D 11), (D 12), (D 13), (D 14), (D 15), (D 16), (D 17), (D 18), (D 19), (D 20), (D 21), (D 22), (D 23), (D 24), (D 25), (D 26), (D 27), (D 28), (D 29), (D 30), (D 31), (D 32), (D 33), (D 34), (D 35), (D 36), (D 37), (D 38), (D 39), (D 40)] ++ [(D 41), (D 42), (D 43), (D 44), (D 45), (D 46), (D 47), (D 48), (D 49), (D 50), (D 51), (D 52), (D 53), (D 54), (D 55), (D 56), (D 57), (D 58), (D 59), (D 60), (D 61), (D 62), (D 63), (D 64), (D 65), (D 66), (D 67), (D 68), (D 69), (D 70), (D 71), (D 72), (D 73), (D 74), (D 75), (D 76), (D 77), (D 78), (D 79), (D 80), (D 81), (D 82), (D 83), undef]).toArray, []⟩) (by kernel_rfl) ?_
        refine wp_seq ?_
        refine lwp_list ?_
        refine ls_d (d := some 93) (by kernel_rfl) (by kernel_rfl) HA_2 (d_call (by kernel_rfl) (by kernel_rfl) H) (fun x93 h_12 w_16 H HA_16 => ?_)
        refine ls_assign (x := x93) (by kernel_rfl) (by kernel_rfl) ?_
        refine ls_nil ?_
        refine then_normal ?_
        refine fr_eq (b := ⟨([x0, undef, x93, x3, x4, x5, (D 1), (D 2), (D 3), (D 4), (D 5), (D 6), x0, x13, x14, undef, x5, x0, x18, x19, (D 11), (D 12), (D 13), (D 14), (D 15), (D 16), (D 17), (D 18), (D 19), (D 20), (D 21), (D 22), (D 23), (D 24), (D 25), (D 26), (D 27), (D 28), (D 29), (D 30), (D 31), (D 32), (D 33), (D 34), (D 35), (D 36), (D 37), (D 38), (D 39), (D 40)] ++ [(D 41), (D 42), (D 43), (D 44), (D 45), (D 46), (D 47), (D 48), (D 49), (D 50), (D 51), (D 52), (D 53), (D 54), (D 55), (D 56), (D 57), (D 58), (D 59), (D 60), (D 61), (D 62), (D 63), (D 64), (D 65), (D 66), (D 67), (D 68), (D 69), (D 70), (D 71), (D 72), (D 73), (D 74), (D 75), (D 76), (D 77), (D 78), (D 79), (D 80), (D 81), (D 82), (D 83), x93]).toArray, []⟩) (by kernel_rfl) ?_
        refine wp_ret ?_
        exact end1 (Try.results8) (by kernel_rfl) (by kernel_rfl) HA_16 H _ (.inr rfl)

end Go.Proofs.Ytbgipcikkedloaa
