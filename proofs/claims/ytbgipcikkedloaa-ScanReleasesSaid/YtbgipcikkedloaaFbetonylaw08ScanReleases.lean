/- The shallow reading of one function, and that the function does it. Written by a program. -/
import Derived.Test.YtbgipcikkedloaaFnC
set_option linter.unusedVariables false
namespace Go.Proofs.Ytbgipcikkedloaa
open Go Go.HW

def betonylaw08_ScanReleases_l2 (R : Value → Heap → Prop) (x3 : Value) (next : Value → Heap → Prop) (x7 : Value) (h_9 : Heap) : Prop :=
  sLe x7 (.int .u8 226) fun x55 =>
  sIf x55 (scan_Decoder_Feed_c x3 x7 h_9 fun x60 h_10 => 
  sTup x60 0 fun x61 =>
  sTup x60 1 fun x62 =>
  sNew h_10 #[.int .i64 0, .int .i64 0] 52 fun x8 h_11 => 
  sStN h_11 x8 x61 2 fun h_12 => 
  sIf x62 (R (.bool false) h_12) (sAdd .u8 x7 (.int .u8 1) fun x57 =>
  next x57 h_12)) (scan_Decoder_Feed_c x3 (.int .u8 5) h_9 fun x65 h_13 => 
  sTup x65 0 fun x66 =>
  sTup x65 1 fun x67 =>
  sNew h_13 #[.int .i64 0, .int .i64 0] 52 fun x10 h_14 => 
  sStN h_14 x10 x66 2 fun h_15 => 
  sAnd x67 (fun k_5 =>
  sLdN h_15 x10 2 fun x70 =>
  sBuild #[.int .i64 0, .int .i64 0] [(0, 1, (.int .i64 5))] fun x71 =>
  sEqlAgg x70 x71 [some .i64, some .i64] fun x72 =>
  k_5 x72) fun x73 =>
  sAndH x73 h_15 (fun k_4 =>
  scan_Decoder_Mods_c x3 h_15 fun x75 h_19 => 
  sEq x75 (.int .i64 0) fun x76 =>
  k_4 x76 h_19) fun x77 h_16 =>
  sAndH x77 h_16 (fun k_3 =>
  betonylaw08_awake_c  h_16 fun x79 h_18 => 
  k_3 x79 h_18) fun x80 h_17 =>
  R x80 h_17)
def betonylaw08_ScanReleases_l1 (R : Value → Heap → Prop) (x0 x3 : Value) (next : Value → Heap → Prop) (x4 : Value) (h_2 : Heap) : Prop :=
  sLen x0 fun x18 =>
  sLt x4 x18 fun x19 =>
  sIf x19 (sIxS x0 x4 1 fun x25 =>
  sLd h_2 x25 fun x26 =>
  scan_Decoder_Feed_c x3 x26 h_2 fun x27 h_3 => 
  sTup x27 0 fun x28 =>
  sTup x27 1 fun x29 =>
  sNew h_3 #[.int .i64 0, .int .i64 0] 52 fun x5 h_4 => 
  sStN h_4 x5 x28 2 fun h_5 => 
  ∃ C : Heap → Prop, C h_5 ∧ (sAndH x29 h_5 (fun k =>
  sIxS x0 x4 1 fun x34 =>
  sLdC C x34 fun x35 =>
  sGe x35 (.int .u8 128) fun x36 =>
  sOrH x36 h_5 (fun k_2 =>
  sOff x5 1 fun x38 =>
  sLdC C x38 fun x39 =>
  scan_Decoder_Mods_c x3 h_5 fun x40 h_8 => C h_8 ∧ (
  sNe x39 x40 fun x41 =>
  k_2 x41 h_8)) fun x42 h_7 =>
  sOr x42 (fun k_1 =>
  sOff x5 0 fun x44 =>
  sLdC C x44 fun x45 =>
  sIxS x0 x4 1 fun x48 =>
  sLdC C x48 fun x49 =>
  sConv .i64 x49 fun x50 =>
  sNe x45 x50 fun x51 =>
  k_1 x51) fun x52 =>
  k x52 h_7) fun x53 h_6 =>
  sIf x53 (R (.bool false) h_6) (sAdd .i64 x4 (.int .i64 1) fun x21 =>
  next x21 h_6))) (sLoop (S := Value) (fun nxt s h => betonylaw08_ScanReleases_l2 R x3 (fun x7' h => nxt x7' h) s h) (.int .u8 224) h_2)
def betonylaw08_ScanReleases_S (x0 : Value) (h : Heap) (R : Value → Heap → Prop) : Prop :=
  sLen x0 fun x13 =>
  sGt x13 (.int .i64 100) fun x14 =>
  sIf x14 (betonylaw08_awake_c  h fun x15 h => 
  R x15 h) (sNew h #[.int .i64 0] 59 fun x3 h_1 => 
  sLoop (S := Value) (fun nxt s h => betonylaw08_ScanReleases_l1 R x0 x3 (fun x4' h => nxt x4' h) s h) (.int .i64 0) h_1)
set_option maxRecDepth 100000 in
theorem betonylaw08_ScanReleases_runs {x0 : Value} {h : Heap} {R : Value → Heap → Prop} (H : betonylaw08_ScanReleases_S x0 h R) : betonylaw08_ScanReleases_c x0 h R := by
  unfold betonylaw08_ScanReleases_S at H
  refine runs_of (b := ⟨([x0, undef, undef, undef, undef, undef, undef, undef, undef, undef, undef, undef, undef, undef, undef, undef, undef, undef, undef, undef, undef, undef, undef, undef, undef, undef, undef, undef, undef, undef, undef, undef, undef, undef, undef, undef, undef, undef, undef, undef, undef, undef, undef, undef, undef, undef, undef, undef, undef, undef] ++ [undef, undef, undef, undef, undef, undef, undef, undef, undef, undef, undef, undef, undef, undef, undef, undef, undef, undef, undef, undef, undef, undef, undef, undef, undef, undef, undef, undef, undef, undef, undef]).toArray, []⟩) Try.call9 Try.func9 rfl (by kernel_rfl) (fun w0 HA => ?_)
  refine wp_seq ?_
  refine lwp_list ?_
  refine ls_assign (x := (.bool false)) (by kernel_rfl) (by kernel_rfl) ?_
  refine ls_nil ?_
  refine then_normal ?_
  refine fr_eq (b := ⟨([x0, undef, (.bool false), undef, undef, undef, undef, undef, undef, undef, undef, undef, undef, undef, undef, undef, undef, undef, undef, undef, undef, undef, undef, undef, undef, undef, undef, undef, undef, undef, undef, undef, undef, undef, undef, undef, undef, undef, undef, undef, undef, undef, undef, undef, undef, undef, undef, undef, undef, undef] ++ [undef, undef, undef, undef, undef, undef, undef, undef, undef, undef, undef, undef, undef, undef, undef, undef, undef, undef, undef, undef, undef, undef, undef, undef, undef, undef, undef, undef, undef, undef, undef]).toArray, []⟩) (by kernel_rfl) ?_
  refine wp_seq ?_
  refine wp_seq ?_
  refine lwp_list ?_
  refine ls_move (x := x0) (by kernel_rfl) (by kernel_rfl) ?_
  refine ls_p (d := some 13) (by kernel_rfl) (by kernel_rfl) (p_len Try.underlying54 (by kernel_rfl) H) (fun x13 H => ?_)
  refine ls_p (d := some 14) (by kernel_rfl) (by kernel_rfl) (p_sGt (by kernel_rfl) (by kernel_rfl) H) (fun x14 H => ?_)
  refine ls_nil ?_
  refine then_normal ?_
  refine fr_eq (b := ⟨([x0, undef, (.bool false), undef, undef, undef, undef, undef, undef, undef, undef, undef, x0, x13, x14, undef, undef, undef, undef, undef, undef, undef, undef, undef, undef, undef, undef, undef, undef, undef, undef, undef, undef, undef, undef, undef, undef, undef, undef, undef, undef, undef, undef, undef, undef, undef, undef, undef, undef, undef] ++ [undef, undef, undef, undef, undef, undef, undef, undef, undef, undef, undef, undef, undef, undef, undef, undef, undef, undef, undef, undef, undef, undef, undef, undef, undef, undef, undef, undef, undef, undef, undef]).toArray, []⟩) (by kernel_rfl) ?_
  refine wp_if rfl H (fun H => ?_) (fun H => ?_)
  · refine wp_seq ?_
    refine lwp_list ?_
    refine ls_d (d := some 15) (by kernel_rfl) (by kernel_rfl) HA (d_call (by kernel_rfl) (by kernel_rfl) H) (fun x15 h w H HA => ?_)
    refine ls_assign (x := x15) (by kernel_rfl) (by kernel_rfl) ?_
    refine ls_nil ?_
    refine then_normal ?_
    refine fr_eq (b := ⟨([x0, undef, x15, undef, undef, undef, undef, undef, undef, undef, undef, undef, x0, x13, x14, x15, undef, undef, undef, undef, undef, undef, undef, undef, undef, undef, undef, undef, undef, undef, undef, undef, undef, undef, undef, undef, undef, undef, undef, undef, undef, undef, undef, undef, undef, undef, undef, undef, undef, undef] ++ [undef, undef, undef, undef, undef, undef, undef, undef, undef, undef, undef, undef, undef, undef, undef, undef, undef, undef, undef, undef, undef, undef, undef, undef, undef, undef, undef, undef, undef, undef, undef]).toArray, []⟩) (by kernel_rfl) ?_
    refine wp_ret ?_
    refine then_ret ?_
    exact end1 (Try.results9) (by kernel_rfl) (by kernel_rfl) HA H _ (.inr rfl)
  · refine wp_skip ?_
    refine then_normal ?_
    refine fr_eq (b := ⟨([x0, undef, (.bool false), undef, undef, undef, undef, undef, undef, undef, undef, undef, x0, x13, x14, undef, undef, undef, undef, undef, undef, undef, undef, undef, undef, undef, undef, undef, undef, undef, undef, undef, undef, undef, undef, undef, undef, undef, undef, undef, undef, undef, undef, undef, undef, undef, undef, undef, undef, undef] ++ [undef, undef, undef, undef, undef, undef, undef, undef, undef, undef, undef, undef, undef, undef, undef, undef, undef, undef, undef, undef, undef, undef, undef, undef, undef, undef, undef, undef, undef, undef, undef]).toArray, []⟩) (by kernel_rfl) ?_
    refine wp_seq ?_
    refine lwp_list ?_
    refine ls_d (d := some 3) (by kernel_rfl) (by kernel_rfl) HA (d_alloc Try.zeroValue59 H) (fun x3 h_1 w_1 H HA_1 => ?_)
    refine ls_nil ?_
    refine then_normal ?_
    refine fr_eq (b := ⟨([x0, undef, (.bool false), x3, undef, undef, undef, undef, undef, undef, undef, undef, x0, x13, x14, undef, undef, undef, undef, undef, undef, undef, undef, undef, undef, undef, undef, undef, undef, undef, undef, undef, undef, undef, undef, undef, undef, undef, undef, undef, undef, undef, undef, undef, undef, undef, undef, undef, undef, undef] ++ [undef, undef, undef, undef, undef, undef, undef, undef, undef, undef, undef, undef, undef, undef, undef, undef, undef, undef, undef, undef, undef, undef, undef, undef, undef, undef, undef, undef, undef, undef, undef]).toArray, []⟩) (by kernel_rfl) ?_
    refine wp_seq ?_
    refine wp_seq ?_
    refine lwp_list ?_
    refine ls_assign (x := (.int .i64 0)) (by kernel_rfl) (by kernel_rfl) ?_
    refine ls_nil ?_
    refine then_normal ?_
    refine fr_eq (b := ⟨([x0, undef, (.bool false), x3, (.int .i64 0), undef, undef, undef, undef, undef, undef, undef, x0, x13, x14, undef, undef, undef, undef, undef, undef, undef, undef, undef, undef, undef, undef, undef, undef, undef, undef, undef, undef, undef, undef, undef, undef, undef, undef, undef, undef, undef, undef, undef, undef, undef, undef, undef, undef, undef] ++ [undef, undef, undef, undef, undef, undef, undef, undef, undef, undef, undef, undef, undef, undef, undef, undef, undef, undef, undef, undef, undef, undef, undef, undef, undef, undef, undef, undef, undef, undef, undef]).toArray, []⟩) (by kernel_rfl) ?_
    refine wp_block ?_
    obtain ⟨I, m, H0, HB⟩ := H
    refine wp_loop (fun a w => ∃ (D : Nat → Value) (x4 : Value) (h_2 : Heap), a = ⟨([x0, undef, (D 0), x3, x4, (D 1), (D 2), undef, undef, undef, undef, undef, x0, x13, x14, undef, (D 3), (D 4), (D 5), (D 6), (D 7), (D 8), (D 9), (D 10), (D 11), (D 12), (D 13), (D 14), (D 15), (D 16), (D 17), (D 18), (D 19), (D 20), (D 21), (D 22), (D 23), (D 24), (D 25), (D 26), (D 27), (D 28), (D 29), (D 30), (D 31), (D 32), (D 33), (D 34), (D 35), (D 36)] ++ [(D 37), (D 38), (D 39), (D 40), undef, undef, undef, undef, undef, undef, undef, undef, undef, undef, undef, undef, undef, undef, undef, undef, undef, undef, undef, undef, undef, undef, undef, undef, undef, undef, undef]).toArray, []⟩ ∧ At w0 w h_2 ∧ I x4 h_2) (fun a w => m (a.tmps.getD 4 undef) w.heap) ?_ ?_
    · exact ⟨(fun i => ([(.bool false), undef, undef, undef, undef, undef, undef, undef, undef, undef, undef, undef, undef, undef, undef, undef, undef, undef, undef, undef, undef, undef, undef, undef, undef, undef, undef, undef, undef, undef, undef, undef, undef, undef, undef, undef, undef, undef, undef, undef, undef]).getD i undef), (.int .i64 0), h_1, by kernel_rfl, HA_1, H0⟩
    · rintro _ w_2 ⟨D, x4, h_2, rfl, HA_2, HI⟩
      have H : betonylaw08_ScanReleases_l1 R x0 x3 (fun x4' h' => I x4' h' ∧ m x4' h' < m x4 h_2) x4 h_2 := HB x4 h_2 HI
      clear HB H0 HI
      unfold betonylaw08_ScanReleases_l1 at H
      refine wp_seq ?_
      refine wp_seq ?_
      refine lwp_list ?_
      refine ls_move (x := x4) (by kernel_rfl) (by kernel_rfl) ?_
      refine ls_move (x := x0) (by kernel_rfl) (by kernel_rfl) ?_
      refine ls_p (d := some 18) (by kernel_rfl) (by kernel_rfl) (p_len Try.underlying54 (by kernel_rfl) H) (fun x18 H => ?_)
      refine ls_p (d := some 19) (by kernel_rfl) (by kernel_rfl) (p_sLt (by kernel_rfl) (by kernel_rfl) H) (fun x19 H => ?_)
      refine ls_nil ?_
      refine then_normal ?_
      refine fr_eq (b := ⟨([x0, undef, (D 0), x3, x4, (D 1), (D 2), undef, undef, undef, undef, undef, x0, x13, x14, undef, x4, x0, x18, x19, (D 7), (D 8), (D 9), (D 10), (D 11), (D 12), (D 13), (D 14), (D 15), (D 16), (D 17), (D 18), (D 19), (D 20), (D 21), (D 22), (D 23), (D 24), (D 25), (D 26), (D 27), (D 28), (D 29), (D 30), (D 31), (D 32), (D 33), (D 34), (D 35), (D 36)] ++ [(D 37), (D 38), (D 39), (D 40), undef, undef, undef, undef, undef, undef, undef, undef, undef, undef, undef, undef, undef, undef, undef, undef, undef, undef, undef, undef, undef, undef, undef, undef, undef, undef, undef]).toArray, []⟩) (by kernel_rfl) ?_
      refine wp_if rfl H (fun H => ?_) (fun H => ?_)
      · refine wp_skip ?_
        refine then_normal ?_
        refine fr_eq (b := ⟨([x0, undef, (D 0), x3, x4, (D 1), (D 2), undef, undef, undef, undef, undef, x0, x13, x14, undef, x4, x0, x18, x19, (D 7), (D 8), (D 9), (D 10), (D 11), (D 12), (D 13), (D 14), (D 15), (D 16), (D 17), (D 18), (D 19), (D 20), (D 21), (D 22), (D 23), (D 24), (D 25), (D 26), (D 27), (D 28), (D 29), (D 30), (D 31), (D 32), (D 33), (D 34), (D 35), (D 36)] ++ [(D 37), (D 38), (D 39), (D 40), undef, undef, undef, undef, undef, undef, undef, undef, undef, undef, undef, undef, undef, undef, undef, undef, undef, undef, undef, undef, undef, undef, undef, undef, undef, undef, undef]).toArray, []⟩) (by kernel_rfl) ?_
        refine wp_seq ?_
        refine wp_block ?_
        refine wp_seq ?_
        refine lwp_list ?_
        refine ls_move (x := x0) (by kernel_rfl) (by kernel_rfl) ?_
        refine ls_move (x := x4) (by kernel_rfl) (by kernel_rfl) ?_
        refine ls_p (d := some 25) (by kernel_rfl) (by kernel_rfl) (p_ixs Try.underlying54 Try.sizeOf5 (by kernel_rfl) (by kernel_rfl) H) (fun x25 H => ?_)
        refine ls_y (d := some 26) (by kernel_rfl) (by kernel_rfl) HA_2 (y_ld Try.isAgg5 (by kernel_rfl) H) (fun x26 H => ?_)
        refine ls_d (d := some 27) (by kernel_rfl) (by kernel_rfl) HA_2 (d_call (by kernel_rfl) (by kernel_rfl) H) (fun x27 h_3 w_3 H HA_3 => ?_)
        refine ls_move (x := x27) (by kernel_rfl) (by kernel_rfl) ?_
        refine ls_fr (b := ⟨([x0, undef, (D 0), x3, x4, (D 1), (D 2), undef, undef, undef, undef, undef, x0, x13, x14, undef, x4, x0, x18, x19, (D 7), (D 8), x27, x0, x4, x25, x26, x27, (D 15), (D 16), (D 17), (D 18), (D 19), (D 20), (D 21), (D 22), (D 23), (D 24), (D 25), (D 26), (D 27), (D 28), (D 29), (D 30), (D 31), (D 32), (D 33), (D 34), (D 35), (D 36)] ++ [(D 37), (D 38), (D 39), (D 40), undef, undef, undef, undef, undef, undef, undef, undef, undef, undef, undef, undef, undef, undef, undef, undef, undef, undef, undef, undef, undef, undef, undef, undef, undef, undef, undef]).toArray, []⟩) (by kernel_rfl) ?_
        refine ls_p (d := some 28) (by kernel_rfl) (by kernel_rfl) (p_tup (by kernel_rfl) H) (fun x28 H => ?_)
        refine ls_p (d := some 29) (by kernel_rfl) (by kernel_rfl) (p_tup (by kernel_rfl) H) (fun x29 H => ?_)
        refine ls_d (d := some 5) (by kernel_rfl) (by kernel_rfl) HA_3 (d_alloc Try.zeroValue52 H) (fun x5 h_4 w_4 H HA_4 => ?_)
        refine ls_d (d := none) (by kernel_rfl) (by kernel_rfl) HA_4 (d_stn Try.sizeOf52 (by kernel_rfl) (by kernel_rfl) H) (fun _ h_5 w_5 H HA_5 => ?_)
        refine ls_assign (x := x29) (by kernel_rfl) (by kernel_rfl) ?_
        refine ls_nil ?_
        refine then_normal ?_
        refine fr_eq (b := ⟨([x0, undef, (D 0), x3, x4, x5, x29, undef, undef, undef, undef, undef, x0, x13, x14, undef, x4, x0, x18, x19, (D 7), (D 8), x27, x0, x4, x25, x26, x27, x28, x29, (D 17), (D 18), (D 19), (D 20), (D 21), (D 22), (D 23), (D 24), (D 25), (D 26), (D 27), (D 28), (D 29), (D 30), (D 31), (D 32), (D 33), (D 34), (D 35), (D 36)] ++ [(D 37), (D 38), (D 39), (D 40), undef, undef, undef, undef, undef, undef, undef, undef, undef, undef, undef, undef, undef, undef, undef, undef, undef, undef, undef, undef, undef, undef, undef, undef, undef, undef, undef]).toArray, []⟩) (by kernel_rfl) ?_
        refine wp_seq ?_
        obtain ⟨C, HC, H⟩ := H
        refine lwp_mx (Nat.testBit 1024) (Nat.testBit 1024) (Nat.testBit 16218591) [0, 1, 3, 3, 15, 31, 63, 127, 255, 511, 255, 2047, 4095, 8191, 16383, 32767, 16383, 16383, 212991, 475135, 999423, 2097151, 4194303, 8388607] C [0, 1, 2, 3, 4, 5, 6, 7, 8, 9, 10, 11, 12, 13, 14, 15, 16, 17, 18, 19, 20, 21, 22, 23] (by kernel_rfl) (by kernel_rfl) (by kernel_rfl) HA_5 HC ?_
        intro w_6 HA_6
        refine lm_al (x := x29) (d := some 30) (by kernel_rfl) rfl (by kernel_rfl) (by kernel_rfl) (al_move (by kernel_rfl)) ?_
        refine lm_al (x := x29) (d := some 31) (by kernel_rfl) rfl (by kernel_rfl) (by kernel_rfl) (al_move (by kernel_rfl)) ?_
        refine lm_andh [(), (), (), (), (), (), (), (), (), (), (), (), (), (), (), (), (), (), (), (), (), ()] (fun K a w => ∃ (D_1 : Nat → Value) (x53 : Value) (h_6 : Heap), a = ⟨([x0, undef, (D 0), x3, x4, x5, x29, undef, undef, undef, undef, undef, x0, x13, x14, undef, x4, x0, x18, x19, (D 7), (D 8), x27, x0, x4, x25, x26, x27, x28, x29, x29, x29, (D_1 0), (D_1 1), (D_1 2), (D_1 3), (D_1 4), (D_1 5), (D_1 6), (D_1 7), (D_1 8), (D_1 9), (D_1 10), (D_1 11), (D_1 12), (D_1 13), (D_1 14), (D_1 15), (D_1 16), (D_1 17)] ++ [(D_1 18), (D_1 19), (D_1 20), x53, undef, undef, undef, undef, undef, undef, undef, undef, undef, undef, undef, undef, undef, undef, undef, undef, undef, undef, undef, undef, undef, undef, undef, undef, undef, undef, undef]).toArray, []⟩ ∧ At w0 w h_6 ∧ K x53 h_6) H (fun hb H => ?_) (fun hb H => ?_) ?_
        · refine lm_al (x := x0) (d := some 32) (by kernel_rfl) rfl (by kernel_rfl) (by rw [hb]; kernel_rfl) (al_move (by kernel_rfl)) ?_
          refine lm_al (x := x4) (d := some 33) (by kernel_rfl) rfl (by kernel_rfl) (by rw [hb]; kernel_rfl) (al_move (by kernel_rfl)) ?_
          refine lm_p (d := some 34) (by kernel_rfl) rfl (by kernel_rfl) (by rw [hb]; kernel_rfl) (p_ixs Try.underlying54 Try.sizeOf5 (by kernel_rfl) (by kernel_rfl) H) (fun x34 H => ?_)
          refine lm_f (d := some 35) (by kernel_rfl) rfl (by kernel_rfl) (by kernel_rfl) (by rw [hb]; kernel_rfl) (c_ld Try.isAgg5 (by kernel_rfl) H) (fun x35 H => ?_)
          refine lm_fr (b := ⟨([x0, undef, (D 0), x3, x4, x5, x29, undef, undef, undef, undef, undef, x0, x13, x14, undef, x4, x0, x18, x19, (D 7), (D 8), x27, x0, x4, x25, x26, x27, x28, x29, x29, x29, x0, x4, x34, x35, (D 23), (D 24), (D 25), (D 26), (D 27), (D 28), (D 29), (D 30), (D 31), (D 32), (D 33), (D 34), (D 35), (D 36)] ++ [(D 37), (D 38), (D 39), (D 40), undef, undef, undef, undef, undef, undef, undef, undef, undef, undef, undef, undef, undef, undef, undef, undef, undef, undef, undef, undef, undef, undef, undef, undef, undef, undef, undef]).toArray, []⟩) (by kernel_rfl) ?_
          refine lm_p (d := some 36) (by kernel_rfl) rfl (by kernel_rfl) (by rw [hb]; kernel_rfl) (p_sGe (by kernel_rfl) (by kernel_rfl) H) (fun x36 H => ?_)
          refine lm_al (x := x36) (d := some 37) (by kernel_rfl) rfl (by kernel_rfl) (by rw [hb]; kernel_rfl) (al_move (by kernel_rfl)) ?_
          refine lm_orh [(), (), (), (), ()] (fun K a w => ∃ (D_2 : Nat → Value) (x42 : Value) (h_7 : Heap), a = ⟨([x0, undef, (D 0), x3, x4, x5, x29, undef, undef, undef, undef, undef, x0, x13, x14, undef, x4, x0, x18, x19, (D 7), (D 8), x27, x0, x4, x25, x26, x27, x28, x29, x29, x29, x0, x4, x34, x35, x36, x36, (D_2 0), (D_2 1), (D_2 2), (D_2 3), x42, (D 30), (D 31), (D 32), (D 33), (D 34), (D 35), (D 36)] ++ [(D 37), (D 38), (D 39), (D 40), undef, undef, undef, undef, undef, undef, undef, undef, undef, undef, undef, undef, undef, undef, undef, undef, undef, undef, undef, undef, undef, undef, undef, undef, undef, undef, undef]).toArray, []⟩ ∧ At w0 w h_7 ∧ K x42 h_7) H (fun hb_2 H => ?_) (fun hb_2 H => ?_) ?_
          · refine lm_p (d := some 38) (by kernel_rfl) rfl (by kernel_rfl) (by rw [hb_2]; kernel_rfl) (p_off Try.underlying52 rfl (fun w => ⟨_, Try.sizeOf3 w⟩) rfl (by kernel_rfl) H) (fun x38 H => ?_)
            refine lm_f (d := some 39) (by kernel_rfl) rfl (by kernel_rfl) (by kernel_rfl) (by rw [hb_2]; kernel_rfl) (c_ld Try.isAgg3 (by kernel_rfl) H) (fun x39 H => ?_)
            refine lm_dc (d := some 40) (by kernel_rfl) rfl (by kernel_rfl) (by rw [hb_2]; kernel_rfl) HA_6 (d_call (by kernel_rfl) (by kernel_rfl) H) (fun x40 h_8 w_10 H HA_10 => ?_)
            refine lm_p (d := some 41) (by kernel_rfl) rfl (by kernel_rfl) (by rw [hb_2]; kernel_rfl) (p_sNe (by kernel_rfl) (by kernel_rfl) H) (fun x41 H => ?_)
            refine lm_fr (b := ⟨([x0, undef, (D 0), x3, x4, x5, x29, undef, undef, undef, undef, undef, x0, x13, x14, undef, x4, x0, x18, x19, (D 7), (D 8), x27, x0, x4, x25, x26, x27, x28, x29, x29, x29, x0, x4, x34, x35, x36, x36, x38, x39, x40, x41, (D 29), (D 30), (D 31), (D 32), (D 33), (D 34), (D 35), (D 36)] ++ [(D 37), (D 38), (D 39), (D 40), undef, undef, undef, undef, undef, undef, undef, undef, undef, undef, undef, undef, undef, undef, undef, undef, undef, undef, undef, undef, undef, undef, undef, undef, undef, undef, undef]).toArray, []⟩) (by kernel_rfl) ?_
            refine lm_al (x := x41) (d := some 42) (by kernel_rfl) rfl (by kernel_rfl) (by rw [hb]; kernel_rfl) (al_pick_f (by rw [hb_2]; kernel_rfl) (by kernel_rfl)) ?_
            refine lm_nil ?_
            exact ⟨(fun i => ([x38, x39, x40, x41]).getD i undef), x41, h_8, by kernel_rfl, HA_10, H⟩
          · refine lm_skip (d := some 38) (by kernel_rfl) rfl (by rw [hb_2]; kernel_rfl) ?_
            refine lm_skip (d := some 39) (by kernel_rfl) rfl (by rw [hb_2]; kernel_rfl) ?_
            refine lm_skip (d := some 40) (by kernel_rfl) rfl (by rw [hb_2]; kernel_rfl) ?_
            refine lm_skip (d := some 41) (by kernel_rfl) rfl (by rw [hb_2]; kernel_rfl) ?_
            refine lm_fr (b := ⟨([x0, undef, (D 0), x3, x4, x5, x29, undef, undef, undef, undef, undef, x0, x13, x14, undef, x4, x0, x18, x19, (D 7), (D 8), x27, x0, x4, x25, x26, x27, x28, x29, x29, x29, x0, x4, x34, x35, x36, x36, undef, undef, undef, undef, (D 29), (D 30), (D 31), (D 32), (D 33), (D 34), (D 35), (D 36)] ++ [(D 37), (D 38), (D 39), (D 40), undef, undef, undef, undef, undef, undef, undef, undef, undef, undef, undef, undef, undef, undef, undef, undef, undef, undef, undef, undef, undef, undef, undef, undef, undef, undef, undef]).toArray, []⟩) (by kernel_rfl) ?_
            refine lm_al (x := (.bool true)) (d := some 42) (by kernel_rfl) rfl (by kernel_rfl) (by rw [hb]; kernel_rfl) (al_pick_t (by rw [hb_2]; kernel_rfl) (by kernel_rfl)) ?_
            refine lm_nil ?_
            exact ⟨(fun i => ([undef, undef, undef, undef]).getD i undef), (.bool true), h_5, by kernel_rfl, HA_6, H⟩
          · rintro _ w_8 ⟨D_2, x42, h_7, rfl, HA_8, H⟩
            refine lm_al (x := x42) (d := some 43) (by kernel_rfl) rfl (by kernel_rfl) (by rw [hb]; kernel_rfl) (al_move (by kernel_rfl)) ?_
            refine lm_or [(), (), (), (), (), (), (), (), ()] (fun K a w => ∃ (D_3 : Nat → Value) (x52 : Value), a = ⟨([x0, undef, (D 0), x3, x4, x5, x29, undef, undef, undef, undef, undef, x0, x13, x14, undef, x4, x0, x18, x19, (D 7), (D 8), x27, x0, x4, x25, x26, x27, x28, x29, x29, x29, x0, x4, x34, x35, x36, x36, (D_2 0), (D_2 1), (D_2 2), (D_2 3), x42, x42, (D_3 0), (D_3 1), (D_3 2), (D_3 3), (D_3 4), (D_3 5)] ++ [(D_3 6), (D_3 7), x52, (D 40), undef, undef, undef, undef, undef, undef, undef, undef, undef, undef, undef, undef, undef, undef, undef, undef, undef, undef, undef, undef, undef, undef, undef, undef, undef, undef, undef]).toArray, []⟩ ∧ At w0 w h_7 ∧ K x52) H (fun hb_1 H => ?_) (fun hb_1 H => ?_) ?_
            · refine lm_p (d := some 44) (by kernel_rfl) rfl (by kernel_rfl) (by rw [hb_1]; kernel_rfl) (p_off Try.underlying52 rfl (fun w => ⟨_, Try.sizeOf3 w⟩) rfl (by kernel_rfl) H) (fun x44 H => ?_)
              refine lm_f (d := some 45) (by kernel_rfl) rfl (by kernel_rfl) (by kernel_rfl) (by rw [hb_1]; kernel_rfl) (c_ld Try.isAgg3 (by kernel_rfl) H) (fun x45 H => ?_)
              refine lm_al (x := x0) (d := some 46) (by kernel_rfl) rfl (by kernel_rfl) (by rw [hb_1]; kernel_rfl) (al_move (by kernel_rfl)) ?_
              refine lm_al (x := x4) (d := some 47) (by kernel_rfl) rfl (by kernel_rfl) (by rw [hb_1]; kernel_rfl) (al_move (by kernel_rfl)) ?_
              refine lm_p (d := some 48) (by kernel_rfl) rfl (by kernel_rfl) (by rw [hb_1]; kernel_rfl) (p_ixs Try.underlying54 Try.sizeOf5 (by kernel_rfl) (by kernel_rfl) H) (fun x48 H => ?_)
              refine lm_fr (b := ⟨([x0, undef, (D 0), x3, x4, x5, x29, undef, undef, undef, undef, undef, x0, x13, x14, undef, x4, x0, x18, x19, (D 7), (D 8), x27, x0, x4, x25, x26, x27, x28, x29, x29, x29, x0, x4, x34, x35, x36, x36, (D_2 0), (D_2 1), (D_2 2), (D_2 3), x42, x42, x44, x45, x0, x4, x48, (D 36)] ++ [(D 37), (D 38), (D 39), (D 40), undef, undef, undef, undef, undef, undef, undef, undef, undef, undef, undef, undef, undef, undef, undef, undef, undef, undef, undef, undef, undef, undef, undef, undef, undef, undef, undef]).toArray, []⟩) (by kernel_rfl) ?_
              refine lm_f (d := some 49) (by kernel_rfl) rfl (by kernel_rfl) (by kernel_rfl) (by rw [hb_1]; kernel_rfl) (c_ld Try.isAgg5 (by kernel_rfl) H) (fun x49 H => ?_)
              refine lm_p (d := some 50) (by kernel_rfl) rfl (by kernel_rfl) (by rw [hb_1]; kernel_rfl) (p_conv Try.underlying5 Try.underlying3 (by kernel_rfl) H) (fun x50 H => ?_)
              refine lm_p (d := some 51) (by kernel_rfl) rfl (by kernel_rfl) (by rw [hb_1]; kernel_rfl) (p_sNe (by kernel_rfl) (by kernel_rfl) H) (fun x51 H => ?_)
              refine lm_al (x := x51) (d := some 52) (by kernel_rfl) rfl (by kernel_rfl) (by rw [hb]; kernel_rfl) (al_pick_f (by rw [hb_1]; kernel_rfl) (by kernel_rfl)) ?_
              refine lm_nil ?_
              exact ⟨(fun i => ([x44, x45, x0, x4, x48, x49, x50, x51]).getD i undef), x51, by kernel_rfl, HA_8, H⟩
            · refine lm_skip (d := some 44) (by kernel_rfl) rfl (by rw [hb_1]; kernel_rfl) ?_
              refine lm_skip (d := some 45) (by kernel_rfl) rfl (by rw [hb_1]; kernel_rfl) ?_
              refine lm_skip (d := some 46) (by kernel_rfl) rfl (by rw [hb_1]; kernel_rfl) ?_
              refine lm_skip (d := some 47) (by kernel_rfl) rfl (by rw [hb_1]; kernel_rfl) ?_
              refine lm_skip (d := some 48) (by kernel_rfl) rfl (by rw [hb_1]; kernel_rfl) ?_
              refine lm_fr (b := ⟨([x0, undef, (D 0), x3, x4, x5, x29, undef, undef, undef, undef, undef, x0, x13, x14, undef, x4, x0, x18, x19, (D 7), (D 8), x27, x0, x4, x25, x26, x27, x28, x29, x29, x29, x0, x4, x34, x35, x36, x36, (D_2 0), (D_2 1), (D_2 2), (D_2 3), x42, x42, undef, undef, undef, undef, undef, (D 36)] ++ [(D 37), (D 38), (D 39), (D 40), undef, undef, undef, undef, undef, undef, undef, undef, undef, undef, undef, undef, undef, undef, undef, undef, undef, undef, undef, undef, undef, undef, undef, undef, undef, undef, undef]).toArray, []⟩) (by kernel_rfl) ?_
              refine lm_skip (d := some 49) (by kernel_rfl) rfl (by rw [hb_1]; kernel_rfl) ?_
              refine lm_skip (d := some 50) (by kernel_rfl) rfl (by rw [hb_1]; kernel_rfl) ?_
              refine lm_skip (d := some 51) (by kernel_rfl) rfl (by rw [hb_1]; kernel_rfl) ?_
              refine lm_al (x := (.bool true)) (d := some 52) (by kernel_rfl) rfl (by kernel_rfl) (by rw [hb]; kernel_rfl) (al_pick_t (by rw [hb_1]; kernel_rfl) (by kernel_rfl)) ?_
              refine lm_nil ?_
              exact ⟨(fun i => ([undef, undef, undef, undef, undef, undef, undef, undef]).getD i undef), (.bool true), by kernel_rfl, HA_8, H⟩
            · rintro _ w_9 ⟨D_3, x52, rfl, HA_9, H⟩
              refine lm_al (x := x52) (d := some 53) (by kernel_rfl) rfl (by kernel_rfl) (by kernel_rfl) (al_pick_t (by rw [hb]; kernel_rfl) (by kernel_rfl)) ?_
              refine lm_nil ?_
              exact ⟨(fun i => ([x0, x4, x34, x35, x36, x36, (D_2 0), (D_2 1), (D_2 2), (D_2 3), x42, x42, (D_3 0), (D_3 1), (D_3 2), (D_3 3), (D_3 4), (D_3 5), (D_3 6), (D_3 7), x52]).getD i undef), x52, h_7, by kernel_rfl, HA_9, H⟩
        · refine lm_skip (d := some 32) (by kernel_rfl) rfl (by rw [hb]; kernel_rfl) ?_
          refine lm_skip (d := some 33) (by kernel_rfl) rfl (by rw [hb]; kernel_rfl) ?_
          refine lm_skip (d := some 34) (by kernel_rfl) rfl (by rw [hb]; kernel_rfl) ?_
          refine lm_skip (d := some 35) (by kernel_rfl) rfl (by rw [hb]; kernel_rfl) ?_
          refine lm_fr (b := ⟨([x0, undef, (D 0), x3, x4, x5, x29, undef, undef, undef, undef, undef, x0, x13, x14, undef, x4, x0, x18, x19, (D 7), (D 8), x27, x0, x4, x25, x26, x27, x28, x29, x29, x29, undef, undef, undef, undef, (D 23), (D 24), (D 25), (D 26), (D 27), (D 28), (D 29), (D 30), (D 31), (D 32), (D 33), (D 34), (D 35), (D 36)] ++ [(D 37), (D 38), (D 39), (D 40), undef, undef, undef, undef, undef, undef, undef, undef, undef, undef, undef, undef, undef, undef, undef, undef, undef, undef, undef, undef, undef, undef, undef, undef, undef, undef, undef]).toArray, []⟩) (by kernel_rfl) ?_
          refine lm_skip (d := some 36) (by kernel_rfl) rfl (by rw [hb]; kernel_rfl) ?_
          refine lm_skip (d := some 37) (by kernel_rfl) rfl (by rw [hb]; kernel_rfl) ?_
          refine lm_skip (d := some 38) (by kernel_rfl) rfl (by kernel_rfl) ?_
          refine lm_skip (d := some 39) (by kernel_rfl) rfl (by kernel_rfl) ?_
          refine lm_skip (d := some 40) (by kernel_rfl) rfl (by kernel_rfl) ?_
          refine lm_skip (d := some 41) (by kernel_rfl) rfl (by kernel_rfl) ?_
          refine lm_fr (b := ⟨([x0, undef, (D 0), x3, x4, x5, x29, undef, undef, undef, undef, undef, x0, x13, x14, undef, x4, x0, x18, x19, (D 7), (D 8), x27, x0, x4, x25, x26, x27, x28, x29, x29, x29, undef, undef, undef, undef, undef, undef, undef, undef, undef, undef, (D 29), (D 30), (D 31), (D 32), (D 33), (D 34), (D 35), (D 36)] ++ [(D 37), (D 38), (D 39), (D 40), undef, undef, undef, undef, undef, undef, undef, undef, undef, undef, undef, undef, undef, undef, undef, undef, undef, undef, undef, undef, undef, undef, undef, undef, undef, undef, undef]).toArray, []⟩) (by kernel_rfl) ?_
          refine lm_skip (d := some 42) (by kernel_rfl) rfl (by rw [hb]; kernel_rfl) ?_
          refine lm_skip (d := some 43) (by kernel_rfl) rfl (by rw [hb]; kernel_rfl) ?_
          refine lm_skip (d := some 44) (by kernel_rfl) rfl (by kernel_rfl) ?_
          refine lm_skip (d := some 45) (by kernel_rfl) rfl (by kernel_rfl) ?_
          refine lm_skip (d := some 46) (by kernel_rfl) rfl (by kernel_rfl) ?_
          refine lm_skip (d := some 47) (by kernel_rfl) rfl (by kernel_rfl) ?_
          refine lm_fr (b := ⟨([x0, undef, (D 0), x3, x4, x5, x29, undef, undef, undef, undef, undef, x0, x13, x14, undef, x4, x0, x18, x19, (D 7), (D 8), x27, x0, x4, x25, x26, x27, x28, x29, x29, x29, undef, undef, undef, undef, undef, undef, undef, undef, undef, undef, undef, undef, undef, undef, undef, undef, (D 35), (D 36)] ++ [(D 37), (D 38), (D 39), (D 40), undef, undef, undef, undef, undef, undef, undef, undef, undef, undef, undef, undef, undef, undef, undef, undef, undef, undef, undef, undef, undef, undef, undef, undef, undef, undef, undef]).toArray, []⟩) (by kernel_rfl) ?_
          refine lm_skip (d := some 48) (by kernel_rfl) rfl (by kernel_rfl) ?_
          refine lm_skip (d := some 49) (by kernel_rfl) rfl (by kernel_rfl) ?_
          refine lm_skip (d := some 50) (by kernel_rfl) rfl (by kernel_rfl) ?_
          refine lm_skip (d := some 51) (by kernel_rfl) rfl (by kernel_rfl) ?_
          refine lm_skip (d := some 52) (by kernel_rfl) rfl (by rw [hb]; kernel_rfl) ?_
          refine lm_al (x := (.bool false)) (d := some 53) (by kernel_rfl) rfl (by kernel_rfl) (by kernel_rfl) (al_pick_f (by rw [hb]; kernel_rfl) (by kernel_rfl)) ?_
          refine lm_nil ?_
          exact ⟨(fun i => ([undef, undef, undef, undef, undef, undef, undef, undef, undef, undef, undef, undef, undef, undef, undef, undef, undef, undef, undef, undef, undef]).getD i undef), (.bool false), h_5, by kernel_rfl, HA_6, H⟩
        · rintro _ w_7 ⟨D_1, x53, h_6, rfl, HA_7, H⟩
          refine lm_nil ?_
          refine then_normal ?_
          refine fr_eq (b := ⟨([x0, undef, (D 0), x3, x4, x5, x29, undef, undef, undef, undef, undef, x0, x13, x14, undef, x4, x0, x18, x19, (D 7), (D 8), x27, x0, x4, x25, x26, x27, x28, x29, x29, x29, (D_1 0), (D_1 1), (D_1 2), (D_1 3), (D_1 4), (D_1 5), (D_1 6), (D_1 7), (D_1 8), (D_1 9), (D_1 10), (D_1 11), (D_1 12), (D_1 13), (D_1 14), (D_1 15), (D_1 16), (D_1 17)] ++ [(D_1 18), (D_1 19), (D_1 20), x53, undef, undef, undef, undef, undef, undef, undef, undef, undef, undef, undef, undef, undef, undef, undef, undef, undef, undef, undef, undef, undef, undef, undef, undef, undef, undef, undef]).toArray, []⟩) (by kernel_rfl) ?_
          refine wp_if rfl H (fun H => ?_) (fun H => ?_)
          · refine wp_seq ?_
            refine lwp_list ?_
            refine ls_assign (x := (.bool false)) (by kernel_rfl) (by kernel_rfl) ?_
            refine ls_nil ?_
            refine then_normal ?_
            refine fr_eq (b := ⟨([x0, undef, (.bool false), x3, x4, x5, x29, undef, undef, undef, undef, undef, x0, x13, x14, undef, x4, x0, x18, x19, (D 7), (D 8), x27, x0, x4, x25, x26, x27, x28, x29, x29, x29, (D_1 0), (D_1 1), (D_1 2), (D_1 3), (D_1 4), (D_1 5), (D_1 6), (D_1 7), (D_1 8), (D_1 9), (D_1 10), (D_1 11), (D_1 12), (D_1 13), (D_1 14), (D_1 15), (D_1 16), (D_1 17)] ++ [(D_1 18), (D_1 19), (D_1 20), x53, undef, undef, undef, undef, undef, undef, undef, undef, undef, undef, undef, undef, undef, undef, undef, undef, undef, undef, undef, undef, undef, undef, undef, undef, undef, undef, undef]).toArray, []⟩) (by kernel_rfl) ?_
            refine wp_ret ?_
            refine block_ret ?_
            refine then_ret ?_
            refine then_ret ?_
            refine block_ret ?_
            refine then_ret ?_
            exact end1 (Try.results9) (by kernel_rfl) (by kernel_rfl) HA_7 H _ (.inr rfl)
          · refine wp_skip ?_
            refine block_normal ?_
            refine then_normal ?_
            refine fr_eq (b := ⟨([x0, undef, (D 0), x3, x4, x5, x29, undef, undef, undef, undef, undef, x0, x13, x14, undef, x4, x0, x18, x19, (D 7), (D 8), x27, x0, x4, x25, x26, x27, x28, x29, x29, x29, (D_1 0), (D_1 1), (D_1 2), (D_1 3), (D_1 4), (D_1 5), (D_1 6), (D_1 7), (D_1 8), (D_1 9), (D_1 10), (D_1 11), (D_1 12), (D_1 13), (D_1 14), (D_1 15), (D_1 16), (D_1 17)] ++ [(D_1 18), (D_1 19), (D_1 20), x53, undef, undef, undef, undef, undef, undef, undef, undef, undef, undef, undef, undef, undef, undef, undef, undef, undef, undef, undef, undef, undef, undef, undef, undef, undef, undef, undef]).toArray, []⟩) (by kernel_rfl) ?_
            refine lwp_list ?_
            refine ls_move (x := x4) (by kernel_rfl) (by kernel_rfl) ?_
            refine ls_p (d := some 21) (by kernel_rfl) (by kernel_rfl) (p_add (by kernel_rfl) (by kernel_rfl) H) (fun x21 H => ?_)
            refine ls_assign (x := x21) (by kernel_rfl) (by kernel_rfl) ?_
            refine ls_nil ?_
            exact ⟨⟨(fun i => ([(D 0), x5, x29, x4, x0, x18, x19, x4, x21, x27, x0, x4, x25, x26, x27, x28, x29, x29, x29, (D_1 0), (D_1 1), (D_1 2), (D_1 3), (D_1 4), (D_1 5), (D_1 6), (D_1 7), (D_1 8), (D_1 9), (D_1 10), (D_1 11), (D_1 12), (D_1 13), (D_1 14), (D_1 15), (D_1 16), (D_1 17), (D_1 18), (D_1 19), (D_1 20), x53]).getD i undef), x21, h_6, by kernel_rfl, HA_7, H.1⟩, loop_lt HA_7.heap HA_2.heap (by kernel_rfl) (by kernel_rfl) H.2⟩
      · refine wp_exit ?_
        refine then_exit ?_
        refine then_exit ?_
        refine block_exit ?_
        refine then_normal ?_
        refine fr_eq (b := ⟨([x0, undef, (D 0), x3, x4, (D 1), (D 2), undef, undef, undef, undef, undef, x0, x13, x14, undef, x4, x0, x18, x19, (D 7), (D 8), (D 9), (D 10), (D 11), (D 12), (D 13), (D 14), (D 15), (D 16), (D 17), (D 18), (D 19), (D 20), (D 21), (D 22), (D 23), (D 24), (D 25), (D 26), (D 27), (D 28), (D 29), (D 30), (D 31), (D 32), (D 33), (D 34), (D 35), (D 36)] ++ [(D 37), (D 38), (D 39), (D 40), undef, undef, undef, undef, undef, undef, undef, undef, undef, undef, undef, undef, undef, undef, undef, undef, undef, undef, undef, undef, undef, undef, undef, undef, undef, undef, undef]).toArray, []⟩) (by kernel_rfl) ?_
        refine wp_seq ?_
        refine wp_seq ?_
        refine lwp_list ?_
        refine ls_assign (x := (.int .u8 224)) (by kernel_rfl) (by kernel_rfl) ?_
        refine ls_nil ?_
        refine then_normal ?_
        refine fr_eq (b := ⟨([x0, undef, (D 0), x3, x4, (D 1), (D 2), (.int .u8 224), undef, undef, undef, undef, x0, x13, x14, undef, x4, x0, x18, x19, (D 7), (D 8), (D 9), (D 10), (D 11), (D 12), (D 13), (D 14), (D 15), (D 16), (D 17), (D 18), (D 19), (D 20), (D 21), (D 22), (D 23), (D 24), (D 25), (D 26), (D 27), (D 28), (D 29), (D 30), (D 31), (D 32), (D 33), (D 34), (D 35), (D 36)] ++ [(D 37), (D 38), (D 39), (D 40), undef, undef, undef, undef, undef, undef, undef, undef, undef, undef, undef, undef, undef, undef, undef, undef, undef, undef, undef, undef, undef, undef, undef, undef, undef, undef, undef]).toArray, []⟩) (by kernel_rfl) ?_
        refine wp_block ?_
        obtain ⟨I_1, m_1, H0, HB⟩ := H
        refine wp_loop (fun a w => ∃ (D_4 : Nat → Value) (x7 : Value) (h_9 : Heap), a = ⟨([x0, undef, (D_4 0), x3, x4, (D 1), (D 2), x7, (D_4 1), (D_4 2), undef, undef, x0, x13, x14, undef, x4, x0, x18, x19, (D 7), (D 8), (D 9), (D 10), (D 11), (D 12), (D 13), (D 14), (D 15), (D 16), (D 17), (D 18), (D 19), (D 20), (D 21), (D 22), (D 23), (D 24), (D 25), (D 26), (D 27), (D 28), (D 29), (D 30), (D 31), (D 32), (D 33), (D 34), (D 35), (D 36)] ++ [(D 37), (D 38), (D 39), (D 40), (D_4 3), (D_4 4), (D_4 5), (D_4 6), (D_4 7), (D_4 8), (D_4 9), (D_4 10), (D_4 11), (D_4 12), undef, undef, undef, undef, undef, undef, undef, undef, undef, undef, undef, undef, undef, undef, undef, undef, undef]).toArray, []⟩ ∧ At w0 w h_9 ∧ I_1 x7 h_9) (fun a w => m_1 (a.tmps.getD 7 undef) w.heap) ?_ ?_
        · exact ⟨(fun i => ([(D 0), undef, undef, undef, undef, undef, undef, undef, undef, undef, undef, undef, undef]).getD i undef), (.int .u8 224), h_2, by kernel_rfl, HA_2, H0⟩
        · rintro _ w_11 ⟨D_4, x7, h_9, rfl, HA_11, HI⟩
          have H : betonylaw08_ScanReleases_l2 R x3 (fun x7' h' => I_1 x7' h' ∧ m_1 x7' h' < m_1 x7 h_9) x7 h_9 := HB x7 h_9 HI
          clear HB H0 HI
          unfold betonylaw08_ScanReleases_l2 at H
          refine wp_seq ?_
          refine wp_seq ?_
          refine lwp_list ?_
          refine ls_move (x := x7) (by kernel_rfl) (by kernel_rfl) ?_
          refine ls_p (d := some 55) (by kernel_rfl) (by kernel_rfl) (p_sLe (by kernel_rfl) (by kernel_rfl) H) (fun x55 H => ?_)
          refine ls_nil ?_
          refine then_normal ?_
          refine fr_eq (b := ⟨([x0, undef, (D_4 0), x3, x4, (D 1), (D 2), x7, (D_4 1), (D_4 2), undef, undef, x0, x13, x14, undef, x4, x0, x18, x19, (D 7), (D 8), (D 9), (D 10), (D 11), (D 12), (D 13), (D 14), (D 15), (D 16), (D 17), (D 18), (D 19), (D 20), (D 21), (D 22), (D 23), (D 24), (D 25), (D 26), (D 27), (D 28), (D 29), (D 30), (D 31), (D 32), (D 33), (D 34), (D 35), (D 36)] ++ [(D 37), (D 38), (D 39), (D 40), x7, x55, (D_4 5), (D_4 6), (D_4 7), (D_4 8), (D_4 9), (D_4 10), (D_4 11), (D_4 12), undef, undef, undef, undef, undef, undef, undef, undef, undef, undef, undef, undef, undef, undef, undef, undef, undef]).toArray, []⟩) (by kernel_rfl) ?_
          refine wp_if rfl H (fun H => ?_) (fun H => ?_)
          · refine wp_skip ?_
            refine then_normal ?_
            refine fr_eq (b := ⟨([x0, undef, (D_4 0), x3, x4, (D 1), (D 2), x7, (D_4 1), (D_4 2), undef, undef, x0, x13, x14, undef, x4, x0, x18, x19, (D 7), (D 8), (D 9), (D 10), (D 11), (D 12), (D 13), (D 14), (D 15), (D 16), (D 17), (D 18), (D 19), (D 20), (D 21), (D 22), (D 23), (D 24), (D 25), (D 26), (D 27), (D 28), (D 29), (D 30), (D 31), (D 32), (D 33), (D 34), (D 35), (D 36)] ++ [(D 37), (D 38), (D 39), (D 40), x7, x55, (D_4 5), (D_4 6), (D_4 7), (D_4 8), (D_4 9), (D_4 10), (D_4 11), (D_4 12), undef, undef, undef, undef, undef, undef, undef, undef, undef, undef, undef, undef, undef, undef, undef, undef, undef]).toArray, []⟩) (by kernel_rfl) ?_
            refine wp_seq ?_
            refine wp_block ?_
            refine wp_seq ?_
            refine lwp_list ?_
            refine ls_move (x := x7) (by kernel_rfl) (by kernel_rfl) ?_
            refine ls_d (d := some 60) (by kernel_rfl) (by kernel_rfl) HA_11 (d_call (by kernel_rfl) (by kernel_rfl) H) (fun x60 h_10 w_12 H HA_12 => ?_)
            refine ls_move (x := x60) (by kernel_rfl) (by kernel_rfl) ?_
            refine ls_p (d := some 61) (by kernel_rfl) (by kernel_rfl) (p_tup (by kernel_rfl) H) (fun x61 H => ?_)
            refine ls_p (d := some 62) (by kernel_rfl) (by kernel_rfl) (p_tup (by kernel_rfl) H) (fun x62 H => ?_)
            refine ls_d (d := some 8) (by kernel_rfl) (by kernel_rfl) HA_12 (d_alloc Try.zeroValue52 H) (fun x8 h_11 w_13 H HA_13 => ?_)
            refine ls_fr (b := ⟨([x0, undef, (D_4 0), x3, x4, (D 1), (D 2), x7, x8, (D_4 2), undef, undef, x0, x13, x14, undef, x4, x0, x18, x19, (D 7), (D 8), (D 9), (D 10), (D 11), (D 12), (D 13), (D 14), (D 15), (D 16), (D 17), (D 18), (D 19), (D 20), (D 21), (D 22), (D 23), (D 24), (D 25), (D 26), (D 27), (D 28), (D 29), (D 30), (D 31), (D 32), (D 33), (D 34), (D 35), (D 36)] ++ [(D 37), (D 38), (D 39), (D 40), x7, x55, (D_4 5), (D_4 6), x60, x7, x60, x61, x62, (D_4 12), undef, undef, undef, undef, undef, undef, undef, undef, undef, undef, undef, undef, undef, undef, undef, undef, undef]).toArray, []⟩) (by kernel_rfl) ?_
            refine ls_d (d := none) (by kernel_rfl) (by kernel_rfl) HA_13 (d_stn Try.sizeOf52 (by kernel_rfl) (by kernel_rfl) H) (fun _ h_12 w_14 H HA_14 => ?_)
            refine ls_assign (x := x62) (by kernel_rfl) (by kernel_rfl) ?_
            refine ls_nil ?_
            refine then_normal ?_
            refine fr_eq (b := ⟨([x0, undef, (D_4 0), x3, x4, (D 1), (D 2), x7, x8, x62, undef, undef, x0, x13, x14, undef, x4, x0, x18, x19, (D 7), (D 8), (D 9), (D 10), (D 11), (D 12), (D 13), (D 14), (D 15), (D 16), (D 17), (D 18), (D 19), (D 20), (D 21), (D 22), (D 23), (D 24), (D 25), (D 26), (D 27), (D 28), (D 29), (D 30), (D 31), (D 32), (D 33), (D 34), (D 35), (D 36)] ++ [(D 37), (D 38), (D 39), (D 40), x7, x55, (D_4 5), (D_4 6), x60, x7, x60, x61, x62, (D_4 12), undef, undef, undef, undef, undef, undef, undef, undef, undef, undef, undef, undef, undef, undef, undef, undef, undef]).toArray, []⟩) (by kernel_rfl) ?_
            refine wp_seq ?_
            refine lwp_list ?_
            refine ls_move (x := x62) (by kernel_rfl) (by kernel_rfl) ?_
            refine ls_nil ?_
            refine then_normal ?_
            refine fr_eq (b := ⟨([x0, undef, (D_4 0), x3, x4, (D 1), (D 2), x7, x8, x62, undef, undef, x0, x13, x14, undef, x4, x0, x18, x19, (D 7), (D 8), (D 9), (D 10), (D 11), (D 12), (D 13), (D 14), (D 15), (D 16), (D 17), (D 18), (D 19), (D 20), (D 21), (D 22), (D 23), (D 24), (D 25), (D 26), (D 27), (D 28), (D 29), (D 30), (D 31), (D 32), (D 33), (D 34), (D 35), (D 36)] ++ [(D 37), (D 38), (D 39), (D 40), x7, x55, (D_4 5), (D_4 6), x60, x7, x60, x61, x62, x62, undef, undef, undef, undef, undef, undef, undef, undef, undef, undef, undef, undef, undef, undef, undef, undef, undef]).toArray, []⟩) (by kernel_rfl) ?_
            refine wp_if rfl H (fun H => ?_) (fun H => ?_)
            · refine wp_seq ?_
              refine lwp_list ?_
              refine ls_assign (x := (.bool false)) (by kernel_rfl) (by kernel_rfl) ?_
              refine ls_nil ?_
              refine then_normal ?_
              refine fr_eq (b := ⟨([x0, undef, (.bool false), x3, x4, (D 1), (D 2), x7, x8, x62, undef, undef, x0, x13, x14, undef, x4, x0, x18, x19, (D 7), (D 8), (D 9), (D 10), (D 11), (D 12), (D 13), (D 14), (D 15), (D 16), (D 17), (D 18), (D 19), (D 20), (D 21), (D 22), (D 23), (D 24), (D 25), (D 26), (D 27), (D 28), (D 29), (D 30), (D 31), (D 32), (D 33), (D 34), (D 35), (D 36)] ++ [(D 37), (D 38), (D 39), (D 40), x7, x55, (D_4 5), (D_4 6), x60, x7, x60, x61, x62, x62, undef, undef, undef, undef, undef, undef, undef, undef, undef, undef, undef, undef, undef, undef, undef, undef, undef]).toArray, []⟩) (by kernel_rfl) ?_
              refine wp_ret ?_
              refine block_ret ?_
              refine then_ret ?_
              refine then_ret ?_
              refine block_ret ?_
              refine then_ret ?_
              exact end1 (Try.results9) (by kernel_rfl) (by kernel_rfl) HA_14 H _ (.inr rfl)
            · refine wp_skip ?_
              refine block_normal ?_
              refine then_normal ?_
              refine fr_eq (b := ⟨([x0, undef, (D_4 0), x3, x4, (D 1), (D 2), x7, x8, x62, undef, undef, x0, x13, x14, undef, x4, x0, x18, x19, (D 7), (D 8), (D 9), (D 10), (D 11), (D 12), (D 13), (D 14), (D 15), (D 16), (D 17), (D 18), (D 19), (D 20), (D 21), (D 22), (D 23), (D 24), (D 25), (D 26), (D 27), (D 28), (D 29), (D 30), (D 31), (D 32), (D 33), (D 34), (D 35), (D 36)] ++ [(D 37), (D 38), (D 39), (D 40), x7, x55, (D_4 5), (D_4 6), x60, x7, x60, x61, x62, x62, undef, undef, undef, undef, undef, undef, undef, undef, undef, undef, undef, undef, undef, undef, undef, undef, undef]).toArray, []⟩) (by kernel_rfl) ?_
              refine lwp_list ?_
              refine ls_move (x := x7) (by kernel_rfl) (by kernel_rfl) ?_
              refine ls_p (d := some 57) (by kernel_rfl) (by kernel_rfl) (p_add (by kernel_rfl) (by kernel_rfl) H) (fun x57 H => ?_)
              refine ls_assign (x := x57) (by kernel_rfl) (by kernel_rfl) ?_
              refine ls_nil ?_
              exact ⟨⟨(fun i => ([(D_4 0), x8, x62, x7, x55, x7, x57, x60, x7, x60, x61, x62, x62]).getD i undef), x57, h_12, by kernel_rfl, HA_14, H.1⟩, loop_lt HA_14.heap HA_11.heap (by kernel_rfl) (by kernel_rfl) H.2⟩
          · refine wp_exit ?_
            refine then_exit ?_
            refine then_exit ?_
            refine block_exit ?_
            refine then_normal ?_
            refine fr_eq (b := ⟨([x0, undef, (D_4 0), x3, x4, (D 1), (D 2), x7, (D_4 1), (D_4 2), undef, undef, x0, x13, x14, undef, x4, x0, x18, x19, (D 7), (D 8), (D 9), (D 10), (D 11), (D 12), (D 13), (D 14), (D 15), (D 16), (D 17), (D 18), (D 19), (D 20), (D 21), (D 22), (D 23), (D 24), (D 25), (D 26), (D 27), (D 28), (D 29), (D 30), (D 31), (D 32), (D 33), (D 34), (D 35), (D 36)] ++ [(D 37), (D 38), (D 39), (D 40), x7, x55, (D_4 5), (D_4 6), (D_4 7), (D_4 8), (D_4 9), (D_4 10), (D_4 11), (D_4 12), undef, undef, undef, undef, undef, undef, undef, undef, undef, undef, undef, undef, undef, undef, undef, undef, undef]).toArray, []⟩) (by kernel_rfl) ?_
            refine wp_seq ?_
            refine lwp_list ?_
            refine ls_d (d := some 65) (by kernel_rfl) (by kernel_rfl) HA_11 (d_call (by kernel_rfl) (by kernel_rfl) H) (fun x65 h_13 w_15 H HA_15 => ?_)
            refine ls_move (x := x65) (by kernel_rfl) (by kernel_rfl) ?_
            refine ls_p (d := some 66) (by kernel_rfl) (by kernel_rfl) (p_tup (by kernel_rfl) H) (fun x66 H => ?_)
            refine ls_p (d := some 67) (by kernel_rfl) (by kernel_rfl) (p_tup (by kernel_rfl) H) (fun x67 H => ?_)
            refine ls_d (d := some 10) (by kernel_rfl) (by kernel_rfl) HA_15 (d_alloc Try.zeroValue52 H) (fun x10 h_14 w_16 H HA_16 => ?_)
            refine ls_d (d := none) (by kernel_rfl) (by kernel_rfl) HA_16 (d_stn Try.sizeOf52 (by kernel_rfl) (by kernel_rfl) H) (fun _ h_15 w_17 H HA_17 => ?_)
            refine ls_fr (b := ⟨([x0, undef, (D_4 0), x3, x4, (D 1), (D 2), x7, (D_4 1), (D_4 2), x10, undef, x0, x13, x14, undef, x4, x0, x18, x19, (D 7), (D 8), (D 9), (D 10), (D 11), (D 12), (D 13), (D 14), (D 15), (D 16), (D 17), (D 18), (D 19), (D 20), (D 21), (D 22), (D 23), (D 24), (D 25), (D 26), (D 27), (D 28), (D 29), (D 30), (D 31), (D 32), (D 33), (D 34), (D 35), (D 36)] ++ [(D 37), (D 38), (D 39), (D 40), x7, x55, (D_4 5), (D_4 6), (D_4 7), (D_4 8), (D_4 9), (D_4 10), (D_4 11), (D_4 12), x65, x65, x66, x67, undef, undef, undef, undef, undef, undef, undef, undef, undef, undef, undef, undef, undef]).toArray, []⟩) (by kernel_rfl) ?_
            refine ls_assign (x := x67) (by kernel_rfl) (by kernel_rfl) ?_
            refine ls_nil ?_
            refine then_normal ?_
            refine fr_eq (b := ⟨([x0, undef, (D_4 0), x3, x4, (D 1), (D 2), x7, (D_4 1), (D_4 2), x10, x67, x0, x13, x14, undef, x4, x0, x18, x19, (D 7), (D 8), (D 9), (D 10), (D 11), (D 12), (D 13), (D 14), (D 15), (D 16), (D 17), (D 18), (D 19), (D 20), (D 21), (D 22), (D 23), (D 24), (D 25), (D 26), (D 27), (D 28), (D 29), (D 30), (D 31), (D 32), (D 33), (D 34), (D 35), (D 36)] ++ [(D 37), (D 38), (D 39), (D 40), x7, x55, (D_4 5), (D_4 6), (D_4 7), (D_4 8), (D_4 9), (D_4 10), (D_4 11), (D_4 12), x65, x65, x66, x67, undef, undef, undef, undef, undef, undef, undef, undef, undef, undef, undef, undef, undef]).toArray, []⟩) (by kernel_rfl) ?_
            refine wp_seq ?_
            refine lwp_list ?_
            refine ls_move (x := x67) (by kernel_rfl) (by kernel_rfl) ?_
            refine ls_move (x := x67) (by kernel_rfl) (by kernel_rfl) ?_
            refine ls_and [(), (), (), ()] (fun K a w => ∃ (D_5 : Nat → Value) (x73 : Value), a = ⟨([x0, undef, (D_4 0), x3, x4, (D 1), (D 2), x7, (D_4 1), (D_4 2), x10, x67, x0, x13, x14, undef, x4, x0, x18, x19, (D 7), (D 8), (D 9), (D 10), (D 11), (D 12), (D 13), (D 14), (D 15), (D 16), (D 17), (D 18), (D 19), (D 20), (D 21), (D 22), (D 23), (D 24), (D 25), (D 26), (D 27), (D 28), (D 29), (D 30), (D 31), (D 32), (D 33), (D 34), (D 35), (D 36)] ++ [(D 37), (D 38), (D 39), (D 40), x7, x55, (D_4 5), (D_4 6), (D_4 7), (D_4 8), (D_4 9), (D_4 10), (D_4 11), (D_4 12), x65, x65, x66, x67, x67, x67, (D_5 0), (D_5 1), (D_5 2), x73, undef, undef, undef, undef, undef, undef, undef]).toArray, []⟩ ∧ At w0 w h_15 ∧ K x73) H (fun hb_5 H => ?_) (fun hb_5 H => ?_) ?_
            · refine ls_y (d := some 70) (by kernel_rfl) (by rw [hb_5]; kernel_rfl) HA_17 (y_ldn Try.isAgg52 Try.sizeOf52 (by kernel_rfl) H) (fun x70 H => ?_)
              refine ls_p (d := some 71) (by kernel_rfl) (by rw [hb_5]; kernel_rfl) (p_lit (pl := [(0, 1), (1, 1)]) Try.zeroValue52 Try.underlying52 ⟨(by kernel_rfl), Try.sizeOf3, (by kernel_rfl), Try.sizeOf3, trivial⟩ (by kernel_rfl) (by kernel_rfl) H) (fun x71 H => ?_)
              refine ls_p (d := some 72) (by kernel_rfl) (by rw [hb_5]; kernel_rfl) (p_eqlAgg (eqT_52) (by kernel_rfl) (by kernel_rfl) H) (fun x72 H => ?_)
              refine ls_pick_t (x := x72) (by kernel_rfl) (by rw [hb_5]; kernel_rfl) (by kernel_rfl) ?_
              refine ls_nil ?_
              refine then_normal ?_
              exact ⟨(fun i => ([x70, x71, x72]).getD i undef), x72, by kernel_rfl, HA_17, H⟩
            · refine ls_skip (d := some 70) (by kernel_rfl) (by rw [hb_5]; kernel_rfl) ?_
              refine ls_skip (d := some 71) (by kernel_rfl) (by rw [hb_5]; kernel_rfl) ?_
              refine ls_skip (d := some 72) (by kernel_rfl) (by rw [hb_5]; kernel_rfl) ?_
              refine ls_pick_f (y := (.bool false)) (by kernel_rfl) (by rw [hb_5]; kernel_rfl) (by kernel_rfl) ?_
              refine ls_nil ?_
              refine then_normal ?_
              exact ⟨(fun i => ([undef, undef, undef]).getD i undef), (.bool false), by kernel_rfl, HA_17, H⟩
            · rintro _ w_18 ⟨D_5, x73, rfl, HA_18, H⟩
              refine ls_move (x := x73) (by kernel_rfl) (by kernel_rfl) ?_
              refine ls_andh [(), (), ()] (fun K a w => ∃ (D_6 : Nat → Value) (x77 : Value) (h_16 : Heap), a = ⟨([x0, undef, (D_4 0), x3, x4, (D 1), (D 2), x7, (D_4 1), (D_4 2), x10, x67, x0, x13, x14, undef, x4, x0, x18, x19, (D 7), (D 8), (D 9), (D 10), (D 11), (D 12), (D 13), (D 14), (D 15), (D 16), (D 17), (D 18), (D 19), (D 20), (D 21), (D 22), (D 23), (D 24), (D 25), (D 26), (D 27), (D 28), (D 29), (D 30), (D 31), (D 32), (D 33), (D 34), (D 35), (D 36)] ++ [(D 37), (D 38), (D 39), (D 40), x7, x55, (D_4 5), (D_4 6), (D_4 7), (D_4 8), (D_4 9), (D_4 10), (D_4 11), (D_4 12), x65, x65, x66, x67, x67, x67, (D_5 0), (D_5 1), (D_5 2), x73, x73, (D_6 0), (D_6 1), x77, undef, undef, undef]).toArray, []⟩ ∧ At w0 w h_16 ∧ K x77 h_16) H (fun hb_4 H => ?_) (fun hb_4 H => ?_) ?_
              · refine ls_d (d := some 75) (by kernel_rfl) (by rw [hb_4]; kernel_rfl) HA_18 (d_call (by kernel_rfl) (by kernel_rfl) H) (fun x75 h_19 w_22 H HA_22 => ?_)
                refine ls_p (d := some 76) (by kernel_rfl) (by rw [hb_4]; kernel_rfl) (p_sEq (by kernel_rfl) (by kernel_rfl) H) (fun x76 H => ?_)
                refine ls_pick_t (x := x76) (by kernel_rfl) (by rw [hb_4]; kernel_rfl) (by kernel_rfl) ?_
                refine ls_nil ?_
                refine then_normal ?_
                exact ⟨(fun i => ([x75, x76]).getD i undef), x76, h_19, by kernel_rfl, HA_22, H⟩
              · refine ls_skip (d := some 75) (by kernel_rfl) (by rw [hb_4]; kernel_rfl) ?_
                refine ls_skip (d := some 76) (by kernel_rfl) (by rw [hb_4]; kernel_rfl) ?_
                refine ls_pick_f (y := (.bool false)) (by kernel_rfl) (by rw [hb_4]; kernel_rfl) (by kernel_rfl) ?_
                refine ls_nil ?_
                refine then_normal ?_
                exact ⟨(fun i => ([undef, undef]).getD i undef), (.bool false), h_15, by kernel_rfl, HA_18, H⟩
              · rintro _ w_19 ⟨D_6, x77, h_16, rfl, HA_19, H⟩
                refine ls_move (x := x77) (by kernel_rfl) (by kernel_rfl) ?_
                refine ls_andh [(), ()] (fun K a w => ∃ (D_7 : Nat → Value) (x80 : Value) (h_17 : Heap), a = ⟨([x0, undef, (D_4 0), x3, x4, (D 1), (D 2), x7, (D_4 1), (D_4 2), x10, x67, x0, x13, x14, undef, x4, x0, x18, x19, (D 7), (D 8), (D 9), (D 10), (D 11), (D 12), (D 13), (D 14), (D 15), (D 16), (D 17), (D 18), (D 19), (D 20), (D 21), (D 22), (D 23), (D 24), (D 25), (D 26), (D 27), (D 28), (D 29), (D 30), (D 31), (D 32), (D 33), (D 34), (D 35), (D 36)] ++ [(D 37), (D 38), (D 39), (D 40), x7, x55, (D_4 5), (D_4 6), (D_4 7), (D_4 8), (D_4 9), (D_4 10), (D_4 11), (D_4 12), x65, x65, x66, x67, x67, x67, (D_5 0), (D_5 1), (D_5 2), x73, x73, (D_6 0), (D_6 1), x77, x77, (D_7 0), x80]).toArray, []⟩ ∧ At w0 w h_17 ∧ K x80 h_17) H (fun hb_3 H => ?_) (fun hb_3 H => ?_) ?_
                · refine ls_d (d := some 79) (by kernel_rfl) (by rw [hb_3]; kernel_rfl) HA_19 (d_call (by kernel_rfl) (by kernel_rfl) H) (fun x79 h_18 w_21 H HA_21 => ?_)
                  refine ls_pick_t (x := x79) (by kernel_rfl) (by rw [hb_3]; kernel_rfl) (by kernel_rfl) ?_
                  refine ls_nil ?_
                  refine then_normal ?_
                  exact ⟨(fun i => ([x79]).getD i undef), x79, h_18, by kernel_rfl, HA_21, H⟩
                · refine ls_skip (d := some 79) (by kernel_rfl) (by rw [hb_3]; kernel_rfl) ?_
                  refine ls_pick_f (y := (.bool false)) (by kernel_rfl) (by rw [hb_3]; kernel_rfl) (by kernel_rfl) ?_
                  refine ls_nil ?_
                  refine then_normal ?_
                  exact ⟨(fun i => ([undef]).getD i undef), (.bool false), h_16, by kernel_rfl, HA_19, H⟩
                · rintro _ w_20 ⟨D_7, x80, h_17, rfl, HA_20, H⟩
                  refine ls_assign (x := x80) (by kernel_rfl) (by kernel_rfl) ?_
                  refine ls_nil ?_
                  refine then_normal ?_
                  refine fr_eq (b := ⟨([x0, undef, x80, x3, x4, (D 1), (D 2), x7, (D_4 1), (D_4 2), x10, x67, x0, x13, x14, undef, x4, x0, x18, x19, (D 7), (D 8), (D 9), (D 10), (D 11), (D 12), (D 13), (D 14), (D 15), (D 16), (D 17), (D 18), (D 19), (D 20), (D 21), (D 22), (D 23), (D 24), (D 25), (D 26), (D 27), (D 28), (D 29), (D 30), (D 31), (D 32), (D 33), (D 34), (D 35), (D 36)] ++ [(D 37), (D 38), (D 39), (D 40), x7, x55, (D_4 5), (D_4 6), (D_4 7), (D_4 8), (D_4 9), (D_4 10), (D_4 11), (D_4 12), x65, x65, x66, x67, x67, x67, (D_5 0), (D_5 1), (D_5 2), x73, x73, (D_6 0), (D_6 1), x77, x77, (D_7 0), x80]).toArray, []⟩) (by kernel_rfl) ?_
                  refine wp_ret ?_
                  exact end1 (Try.results9) (by kernel_rfl) (by kernel_rfl) HA_20 H _ (.inr rfl)

end Go.Proofs.Ytbgipcikkedloaa
