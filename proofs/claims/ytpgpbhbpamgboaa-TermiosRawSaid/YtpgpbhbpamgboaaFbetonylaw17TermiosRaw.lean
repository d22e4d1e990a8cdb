/- The shallow reading of one function, and that the function does it. Written by a program. -/
import Derived.Test.YtpgpbhbpamgboaaFnC
set_option linter.unusedVariables false
namespace Go.Proofs.Ytpgpbhbpamgboaa
open Go Go.HW

def betonylaw17_TermiosRaw_S (x0 x1 : Value) (h : Heap) (R : Value → Heap → Prop) : Prop :=
  sBox h x0 24 fun x2 h => 
  sLdN h x2 17 fun x9 =>
  termios_Raw_c x9 h fun x10 h_1 => 
  sNew h_1 #[.int .i64 0, .int .i64 0, .int .i64 0, .int .i64 0, .int .i64 0, .int .i64 0, .int .i64 0, .int .i64 0, .int .i64 0, .int .i64 0, .int .i64 0, .int .i64 0, .int .i64 0, .int .i64 0, .int .i64 0, .int .i64 0, .int .i64 0] 24 fun x5 h_2 => 
  sStN h_2 x5 x10 17 fun h_3 => 
  sOff x2 2 fun x11 =>
  sLd h_3 x11 fun x12 =>
  sBits .and .i64 x12 (.int .i64 256) fun x13 =>
  sOff x2 3 fun x14 =>
  sLdN h_3 x14 12 fun x15 =>
  sBuild #[.int .i64 0, .int .i64 0, .int .i64 0, .int .i64 0, .int .i64 0, .int .i64 0, .int .i64 0, .int .i64 0, .int .i64 0, .int .i64 0, .int .i64 0, .int .i64 0, .int .i64 0, .int .i64 0, .int .i64 0, .int .i64 0, .int .i64 0] [(2, 1, x13), (3, 12, x15), (15, 1, (.int .i64 1))] fun x16 =>
  sNew h_3 #[.int .i64 0, .int .i64 0, .int .i64 0, .int .i64 0, .int .i64 0, .int .i64 0, .int .i64 0, .int .i64 0, .int .i64 0, .int .i64 0, .int .i64 0, .int .i64 0, .int .i64 0, .int .i64 0, .int .i64 0, .int .i64 0, .int .i64 0] 24 fun x6 h_4 => 
  sStN h_4 x6 x16 17 fun h_5 => 
  sLdN h_5 x5 17 fun x18 =>
  termios_Map_c x18 x1 h_5 fun x20 h_6 => 
  sTup x20 0 fun x21 =>
  sTup x20 1 fun x22 =>
  ∃ C : Heap → Prop, C h_6 ∧ (sLdNC C x5 17 fun x23 =>
  sLdNC C x6 17 fun x24 =>
  sEqlAgg x23 x24 [some .i64, some .i64, some .i64, some .i64, some .i64, some .i64, some .i64, some .i64, some .i64, some .i64, some .i64, some .i64, some .i64, some .i64, some .i64, some .i64, some .i64] fun x25 =>
  sAndH x25 h_6 (fun k_4 =>
  sLdNC C x2 17 fun x27 =>
  betonyref17_Right_c x27 h_6 fun x28 h_12 => C h_12 ∧ (
  sNot x28 fun x29 =>
  sOrH x29 h_12 (fun k_5 =>
  sLdNC C x5 17 fun x31 =>
  termios_Right_c x31 h_12 fun x32 h_14 => C h_14 ∧ (
  k_5 x32 h_14)) fun x33 h_13 =>
  k_4 x33 h_13)) fun x34 h_7 =>
  sAndH x34 h_7 (fun k_3 =>
  sLdNC C x5 17 fun x36 =>
  termios_Raw_c x36 h_7 fun x37 h_11 => C h_11 ∧ (
  sLdNC C x5 17 fun x38 =>
  sEqlAgg x37 x38 [some .i64, some .i64, some .i64, some .i64, some .i64, some .i64, some .i64, some .i64, some .i64, some .i64, some .i64, some .i64, some .i64, some .i64, some .i64, some .i64, some .i64] fun x39 =>
  k_3 x39 h_11)) fun x40 h_8 =>
  sAnd x40 (fun k_2 =>
  sEq x21 x1 fun x44 =>
  k_2 x44) fun x45 =>
  sAnd x45 (fun k_1 =>
  k_1 x22) fun x48 =>
  sAndH x48 h_8 (fun k =>
  betonylaw17_awake_c  h_8 fun x50 h_10 => 
  k x50 h_10) fun x51 h_9 =>
  R x51 h_9)
set_option maxRecDepth 100000 in
theorem betonylaw17_TermiosRaw_runs {x0 x1 : Value} {h : Heap} {R : Value → Heap → Prop} (H : betonylaw17_TermiosRaw_S x0 x1 h R) : betonylaw17_TermiosRaw_c x0 x1 h R := by
  unfold betonylaw17_TermiosRaw_S at H
  refine runs_of (b := ⟨#[x0, x1, undef, undef, undef, undef, undef, undef, undef, undef, undef, undef, undef, undef, undef, undef, undef, undef, undef, undef, undef, undef, undef, undef, undef, undef, undef, undef, undef, undef, undef, undef, undef, undef, undef, undef, undef, undef, undef, undef, undef, undef, undef, undef, undef, undef, undef, undef, undef, undef, undef, undef], []⟩) Try.call5 Try.func5 rfl (by kernel_rfl) (fun w0 HA => ?_)
  refine wp_seq ?_
  refine lwp_list ?_
  refine ls_d (d := some 2) (by kernel_rfl) (by kernel_rfl) HA (d_box (by kernel_rfl) H) (fun x2 h w H HA => ?_)
  refine ls_assign (x := (.bool false)) (by kernel_rfl) (by kernel_rfl) ?_
  refine ls_nil ?_
  refine then_normal ?_
  refine fr_eq (b := ⟨#[x0, x1, x2, undef, (.bool false), undef, undef, undef, undef, undef, undef, undef, undef, undef, undef, undef, undef, undef, undef, undef, undef, undef, undef, undef, undef, undef, undef, undef, undef, undef, undef, undef, undef, undef, undef, undef, undef, undef, undef, undef, undef, undef, undef, undef, undef, undef, undef, undef, undef, undef, undef, undef], []⟩) (by kernel_rfl) ?_
  refine wp_seq ?_
  refine lwp_list ?_
  refine ls_y (d := some 9) (by kernel_rfl) (by kernel_rfl) HA (y_ldn Try.isAgg24 Try.sizeOf24 (by kernel_rfl) H) (fun x9 H => ?_)
  refine ls_d (d := some 10) (by kernel_rfl) (by kernel_rfl) HA (d_call (by kernel_rfl) (by kernel_rfl) H) (fun x10 h_1 w_1 H HA_1 => ?_)
  refine ls_d (d := some 5) (by kernel_rfl) (by kernel_rfl) HA_1 (d_alloc Try.zeroValue24 H) (fun x5 h_2 w_2 H HA_2 => ?_)
  refine ls_d (d := none) (by kernel_rfl) (by kernel_rfl) HA_2 (d_stn Try.sizeOf24 (by kernel_rfl) (by kernel_rfl) H) (fun _ h_3 w_3 H HA_3 => ?_)
  refine ls_nil ?_
  refine then_normal ?_
  refine fr_eq (b := ⟨#[x0, x1, x2, undef, (.bool false), x5, undef, undef, undef, x9, x10, undef, undef, undef, undef, undef, undef, undef, undef, undef, undef, undef, undef, undef, undef, undef, undef, undef, undef, undef, undef, undef, undef, undef, undef, undef, undef, undef, undef, undef, undef, undef, undef, undef, undef, undef, undef, undef, undef, undef, undef, undef], []⟩) (by kernel_rfl) ?_
  refine wp_seq ?_
  refine lwp_list ?_
  refine ls_p (d := some 11) (by kernel_rfl) (by kernel_rfl) (p_off Try.underlying24 rfl (fun w => ⟨_, Try.sizeOf3 w⟩) rfl (by kernel_rfl) H) (fun x11 H => ?_)
  refine ls_y (d := some 12) (by kernel_rfl) (by kernel_rfl) HA_3 (y_ld Try.isAgg3 (by kernel_rfl) H) (fun x12 H => ?_)
  refine ls_p (d := some 13) (by kernel_rfl) (by kernel_rfl) (p_bits (by decide) (by kernel_rfl) (by kernel_rfl) H) (fun x13 H => ?_)
  refine ls_p (d := some 14) (by kernel_rfl) (by kernel_rfl) (p_off Try.underlying24 rfl (fun w => ⟨_, Try.sizeOf22 w⟩) rfl (by kernel_rfl) H) (fun x14 H => ?_)
  refine ls_y (d := some 15) (by kernel_rfl) (by kernel_rfl) HA_3 (y_ldn Try.isAgg22 Try.sizeOf22 (by kernel_rfl) H) (fun x15 H => ?_)
  refine ls_p (d := some 16) (by kernel_rfl) (by kernel_rfl) (p_lit (pl := [(0, 1), (1, 1), (2, 1), (3, 12), (15, 1), (16, 1)]) Try.zeroValue24 Try.underlying24 ⟨(by kernel_rfl), Try.sizeOf3, (by kernel_rfl), Try.sizeOf3, (by kernel_rfl), Try.sizeOf3, (by kernel_rfl), Try.sizeOf22, (by kernel_rfl), Try.sizeOf3, (by kernel_rfl), Try.sizeOf3, trivial⟩ (by kernel_rfl) (by kernel_rfl) H) (fun x16 H => ?_)
  refine ls_fr (b := ⟨#[x0, x1, x2, undef, (.bool false), x5, undef, undef, undef, x9, x10, x11, x12, x13, x14, x15, x16, undef, undef, undef, undef, undef, undef, undef, undef, undef, undef, undef, undef, undef, undef, undef, undef, undef, undef, undef, undef, undef, undef, undef, undef, undef, undef, undef, undef, undef, undef, undef, undef, undef, undef, undef], []⟩) (by kernel_rfl) ?_
  refine ls_d (d := some 6) (by kernel_rfl) (by kernel_rfl) HA_3 (d_alloc Try.zeroValue24 H) (fun x6 h_4 w_4 H HA_4 => ?_)
  refine ls_d (d := none) (by kernel_rfl) (by kernel_rfl) HA_4 (d_stn Try.sizeOf24 (by kernel_rfl) (by kernel_rfl) H) (fun _ h_5 w_5 H HA_5 => ?_)
  refine ls_nil ?_
  refine then_normal ?_
  refine fr_eq (b := ⟨#[x0, x1, x2, undef, (.bool false), x5, x6, undef, undef, x9, x10, x11, x12, x13, x14, x15, x16, undef, undef, undef, undef, undef, undef, undef, undef, undef, undef, undef, undef, undef, undef, undef, undef, undef, undef, undef, undef, undef, undef, undef, undef, undef, undef, undef, undef, undef, undef, undef, undef, undef, undef, undef], []⟩) (by kernel_rfl) ?_
  refine wp_seq ?_
  refine lwp_list ?_
  refine ls_y (d := some 18) (by kernel_rfl) (by kernel_rfl) HA_5 (y_ldn Try.isAgg24 Try.sizeOf24 (by kernel_rfl) H) (fun x18 H => ?_)
  refine ls_move (x := x1) (by kernel_rfl) (by kernel_rfl) ?_
  refine ls_d (d := some 20) (by kernel_rfl) (by kernel_rfl) HA_5 (d_call (by kernel_rfl) (by kernel_rfl) H) (fun x20 h_6 w_6 H HA_6 => ?_)
  refine ls_move (x := x20) (by kernel_rfl) (by kernel_rfl) ?_
  refine ls_p (d := some 21) (by kernel_rfl) (by kernel_rfl) (p_tup (by kernel_rfl) H) (fun x21 H => ?_)
  refine ls_p (d := some 22) (by kernel_rfl) (by kernel_rfl) (p_tup (by kernel_rfl) H) (fun x22 H => ?_)
  refine ls_fr (b := ⟨#[x0, x1, x2, undef, (.bool false), x5, x6, undef, undef, x9, x10, x11, x12, x13, x14, x15, x16, x20, x18, x1, x20, x21, x22, undef, undef, undef, undef, undef, undef, undef, undef, undef, undef, undef, undef, undef, undef, undef, undef, undef, undef, undef, undef, undef, undef, undef, undef, undef, undef, undef, undef, undef], []⟩) (by kernel_rfl) ?_
  refine ls_assign (x := x21) (by kernel_rfl) (by kernel_rfl) ?_
  refine ls_assign (x := x22) (by kernel_rfl) (by kernel_rfl) ?_
  refine ls_nil ?_
  refine then_normal ?_
  refine fr_eq (b := ⟨#[x0, x1, x2, undef, (.bool false), x5, x6, x21, x22, x9, x10, x11, x12, x13, x14, x15, x16, x20, x18, x1, x20, x21, x22, undef, undef, undef, undef, undef, undef, undef, undef, undef, undef, undef, undef, undef, undef, undef, undef, undef, undef, undef, undef, undef, undef, undef, undef, undef, undef, undef, undef, undef], []⟩) (by kernel_rfl) ?_
  refine wp_seq ?_
  obtain ⟨C, HC, H⟩ := H
  refine lwp_mx (Nat.testBit 134234656) (Nat.testBit 16928) (Nat.testBit 939465932) [0, 0, 3, 7, 15, 31, 63, 127, 255, 511, 1023, 2047, 4095, 8191, 16383, 8191, 65535, 131071, 262143, 524287, 524287, 2097151, 4194303, 8388607, 16777215, 33554431, 67108863, 134217727, 268435455, 536870911] C [0, 1, 2, 3, 4, 5, 6, 7, 8, 9, 10, 11, 12, 13, 14, 15, 16, 17, 18, 19, 20, 21, 22, 23, 24, 25, 26, 27, 28, 29] (by kernel_rfl) (by kernel_rfl) (by kernel_rfl) HA_6 HC ?_
  intro w_7 HA_7
  refine lm_f (d := some 23) (by kernel_rfl) rfl (by kernel_rfl) (by kernel_rfl) (by kernel_rfl) (c_ldn Try.isAgg24 Try.sizeOf24 (by kernel_rfl) H) (fun x23 H => ?_)
  refine lm_f (d := some 24) (by kernel_rfl) rfl (by kernel_rfl) (by kernel_rfl) (by kernel_rfl) (c_ldn Try.isAgg24 Try.sizeOf24 (by kernel_rfl) H) (fun x24 H => ?_)
  refine lm_p (d := some 25) (by kernel_rfl) rfl (by kernel_rfl) (by kernel_rfl) (p_eqlAgg (eqT_24) (by kernel_rfl) (by kernel_rfl) H) (fun x25 H => ?_)
  refine lm_al (x := x25) (d := some 26) (by kernel_rfl) rfl (by kernel_rfl) (by kernel_rfl) (al_move (by kernel_rfl)) ?_
  refine lm_andh [(), (), (), (), (), (), (), ()] (fun K a w => ∃ (D : Nat → Value) (x34 : Value) (h_7 : Heap), a = ⟨#[x0, x1, x2, undef, (.bool false), x5, x6, x21, x22, x9, x10, x11, x12, x13, x14, x15, x16, x20, x18, x1, x20, x21, x22, x23, x24, x25, x25, (D 0), (D 1), (D 2), (D 3), (D 4), (D 5), (D 6), x34, undef, undef, undef, undef, undef, undef, undef, undef, undef, undef, undef, undef, undef, undef, undef, undef, undef], []⟩ ∧ At w0 w h_7 ∧ K x34 h_7) H (fun hb_4 H => ?_) (fun hb_4 H => ?_) ?_
  · refine lm_f (d := some 27) (by kernel_rfl) rfl (by kernel_rfl) (by kernel_rfl) (by rw [hb_4]; kernel_rfl) (c_ldn Try.isAgg24 Try.sizeOf24 (by kernel_rfl) H) (fun x27 H => ?_)
    refine lm_dc (d := some 28) (by kernel_rfl) rfl (by kernel_rfl) (by rw [hb_4]; kernel_rfl) HA_7 (d_call (by kernel_rfl) (by kernel_rfl) H) (fun x28 h_12 w_15 H HA_15 => ?_)
    refine lm_fr (b := ⟨#[x0, x1, x2, undef, (.bool false), x5, x6, x21, x22, x9, x10, x11, x12, x13, x14, x15, x16, x20, x18, x1, x20, x21, x22, x23, x24, x25, x25, x27, x28, undef, undef, undef, undef, undef, undef, undef, undef, undef, undef, undef, undef, undef, undef, undef, undef, undef, undef, undef, undef, undef, undef, undef], []⟩) (by kernel_rfl) ?_
    refine lm_p (d := some 29) (by kernel_rfl) rfl (by kernel_rfl) (by rw [hb_4]; kernel_rfl) (p_not (by kernel_rfl) H) (fun x29 H => ?_)
    refine lm_al (x := x29) (d := some 30) (by kernel_rfl) rfl (by kernel_rfl) (by rw [hb_4]; kernel_rfl) (al_move (by kernel_rfl)) ?_
    refine lm_orh [(), (), ()] (fun K a w => ∃ (D_5 : Nat → Value) (x33 : Value) (h_13 : Heap), a = ⟨#[x0, x1, x2, undef, (.bool false), x5, x6, x21, x22, x9, x10, x11, x12, x13, x14, x15, x16, x20, x18, x1, x20, x21, x22, x23, x24, x25, x25, x27, x28, x29, x29, (D_5 0), (D_5 1), x33, undef, undef, undef, undef, undef, undef, undef, undef, undef, undef, undef, undef, undef, undef, undef, undef, undef, undef], []⟩ ∧ At w0 w h_13 ∧ K x33 h_13) H (fun hb_5 H => ?_) (fun hb_5 H => ?_) ?_
    · refine lm_f (d := some 31) (by kernel_rfl) rfl (by kernel_rfl) (by kernel_rfl) (by rw [hb_5]; kernel_rfl) (c_ldn Try.isAgg24 Try.sizeOf24 (by kernel_rfl) H) (fun x31 H => ?_)
      refine lm_dc (d := some 32) (by kernel_rfl) rfl (by kernel_rfl) (by rw [hb_5]; kernel_rfl) HA_15 (d_call (by kernel_rfl) (by kernel_rfl) H) (fun x32 h_14 w_17 H HA_17 => ?_)
      refine lm_al (x := x32) (d := some 33) (by kernel_rfl) rfl (by kernel_rfl) (by rw [hb_4]; kernel_rfl) (al_pick_f (by rw [hb_5]; kernel_rfl) (by kernel_rfl)) ?_
      refine lm_nil ?_
      exact ⟨(fun i => ([x31, x32]).getD i undef), x32, h_14, by kernel_rfl, HA_17, H⟩
    · refine lm_skip (d := some 31) (by kernel_rfl) rfl (by rw [hb_5]; kernel_rfl) ?_
      refine lm_skip (d := some 32) (by kernel_rfl) rfl (by rw [hb_5]; kernel_rfl) ?_
      refine lm_al (x := (.bool true)) (d := some 33) (by kernel_rfl) rfl (by kernel_rfl) (by rw [hb_4]; kernel_rfl) (al_pick_t (by rw [hb_5]; kernel_rfl) (by kernel_rfl)) ?_
      refine lm_nil ?_
      exact ⟨(fun i => ([undef, undef]).getD i undef), (.bool true), h_12, by kernel_rfl, HA_15, H⟩
    · rintro _ w_16 ⟨D_5, x33, h_13, rfl, HA_16, H⟩
      refine lm_al (x := x33) (d := some 34) (by kernel_rfl) rfl (by kernel_rfl) (by kernel_rfl) (al_pick_t (by rw [hb_4]; kernel_rfl) (by kernel_rfl)) ?_
      refine lm_nil ?_
      exact ⟨(fun i => ([x27, x28, x29, x29, (D_5 0), (D_5 1), x33]).getD i undef), x33, h_13, by kernel_rfl, HA_16, H⟩
  · refine lm_skip (d := some 27) (by kernel_rfl) rfl (by rw [hb_4]; kernel_rfl) ?_
    refine lm_skip (d := some 28) (by kernel_rfl) rfl (by rw [hb_4]; kernel_rfl) ?_
    refine lm_fr (b := ⟨#[x0, x1, x2, undef, (.bool false), x5, x6, x21, x22, x9, x10, x11, x12, x13, x14, x15, x16, x20, x18, x1, x20, x21, x22, x23, x24, x25, x25, undef, undef, undef, undef, undef, undef, undef, undef, undef, undef, undef, undef, undef, undef, undef, undef, undef, undef, undef, undef, undef, undef, undef, undef, undef], []⟩) (by kernel_rfl) ?_
    refine lm_skip (d := some 29) (by kernel_rfl) rfl (by rw [hb_4]; kernel_rfl) ?_
    refine lm_skip (d := some 30) (by kernel_rfl) rfl (by rw [hb_4]; kernel_rfl) ?_
    refine lm_skip (d := some 31) (by kernel_rfl) rfl (by kernel_rfl) ?_
    refine lm_skip (d := some 32) (by kernel_rfl) rfl (by kernel_rfl) ?_
    refine lm_skip (d := some 33) (by kernel_rfl) rfl (by rw [hb_4]; kernel_rfl) ?_
    refine lm_al (x := (.bool false)) (d := some 34) (by kernel_rfl) rfl (by kernel_rfl) (by kernel_rfl) (al_pick_f (by rw [hb_4]; kernel_rfl) (by kernel_rfl)) ?_
    refine lm_nil ?_
    exact ⟨(fun i => ([undef, undef, undef, undef, undef, undef, undef]).getD i undef), (.bool false), h_6, by kernel_rfl, HA_7, H⟩
  · rintro _ w_8 ⟨D, x34, h_7, rfl, HA_8, H⟩
    refine lm_al (x := x34) (d := some 35) (by kernel_rfl) rfl (by kernel_rfl) (by kernel_rfl) (al_move (by kernel_rfl)) ?_
    refine lm_andh [(), (), (), (), ()] (fun K a w => ∃ (D_1 : Nat → Value) (x40 : Value) (h_8 : Heap), a = ⟨#[x0, x1, x2, undef, (.bool false), x5, x6, x21, x22, x9, x10, x11, x12, x13, x14, x15, x16, x20, x18, x1, x20, x21, x22, x23, x24, x25, x25, (D 0), (D 1), (D 2), (D 3), (D 4), (D 5), (D 6), x34, x34, (D_1 0), (D_1 1), (D_1 2), (D_1 3), x40, undef, undef, undef, undef, undef, undef, undef, undef, undef, undef, undef], []⟩ ∧ At w0 w h_8 ∧ K x40 h_8) H (fun hb_3 H => ?_) (fun hb_3 H => ?_) ?_
    · refine lm_f (d := some 36) (by kernel_rfl) rfl (by kernel_rfl) (by kernel_rfl) (by rw [hb_3]; kernel_rfl) (c_ldn Try.isAgg24 Try.sizeOf24 (by kernel_rfl) H) (fun x36 H => ?_)
      refine lm_dc (d := some 37) (by kernel_rfl) rfl (by kernel_rfl) (by rw [hb_3]; kernel_rfl) HA_8 (d_call (by kernel_rfl) (by kernel_rfl) H) (fun x37 h_11 w_14 H HA_14 => ?_)
      refine lm_f (d := some 38) (by kernel_rfl) rfl (by kernel_rfl) (by kernel_rfl) (by rw [hb_3]; kernel_rfl) (c_ldn Try.isAgg24 Try.sizeOf24 (by kernel_rfl) H) (fun x38 H => ?_)
      refine lm_p (d := some 39) (by kernel_rfl) rfl (by kernel_rfl) (by rw [hb_3]; kernel_rfl) (p_eqlAgg (eqT_24) (by kernel_rfl) (by kernel_rfl) H) (fun x39 H => ?_)
      refine lm_al (x := x39) (d := some 40) (by kernel_rfl) rfl (by kernel_rfl) (by kernel_rfl) (al_pick_t (by rw [hb_3]; kernel_rfl) (by kernel_rfl)) ?_
      refine lm_nil ?_
      exact ⟨(fun i => ([x36, x37, x38, x39]).getD i undef), x39, h_11, by kernel_rfl, HA_14, H⟩
    · refine lm_skip (d := some 36) (by kernel_rfl) rfl (by rw [hb_3]; kernel_rfl) ?_
      refine lm_skip (d := some 37) (by kernel_rfl) rfl (by rw [hb_3]; kernel_rfl) ?_
      refine lm_skip (d := some 38) (by kernel_rfl) rfl (by rw [hb_3]; kernel_rfl) ?_
      refine lm_skip (d := some 39) (by kernel_rfl) rfl (by rw [hb_3]; kernel_rfl) ?_
      refine lm_al (x := (.bool false)) (d := some 40) (by kernel_rfl) rfl (by kernel_rfl) (by kernel_rfl) (al_pick_f (by rw [hb_3]; kernel_rfl) (by kernel_rfl)) ?_
      refine lm_nil ?_
      exact ⟨(fun i => ([undef, undef, undef, undef]).getD i undef), (.bool false), h_7, by kernel_rfl, HA_8, H⟩
    · rintro _ w_9 ⟨D_1, x40, h_8, rfl, HA_9, H⟩
      refine lm_al (x := x40) (d := some 41) (by kernel_rfl) rfl (by kernel_rfl) (by kernel_rfl) (al_move (by kernel_rfl)) ?_
      refine lm_and [(), (), (), ()] (fun K a w => ∃ (D_2 : Nat → Value) (x45 : Value), a = ⟨#[x0, x1, x2, undef, (.bool false), x5, x6, x21, x22, x9, x10, x11, x12, x13, x14, x15, x16, x20, x18, x1, x20, x21, x22, x23, x24, x25, x25, (D 0), (D 1), (D 2), (D 3), (D 4), (D 5), (D 6), x34, x34, (D_1 0), (D_1 1), (D_1 2), (D_1 3), x40, x40, (D_2 0), (D_2 1), (D_2 2), x45, undef, undef, undef, undef, undef, undef], []⟩ ∧ At w0 w h_8 ∧ K x45) H (fun hb_2 H => ?_) (fun hb_2 H => ?_) ?_
      · refine lm_al (x := x21) (d := some 42) (by kernel_rfl) rfl (by kernel_rfl) (by rw [hb_2]; kernel_rfl) (al_move (by kernel_rfl)) ?_
        refine lm_al (x := x1) (d := some 43) (by kernel_rfl) rfl (by kernel_rfl) (by rw [hb_2]; kernel_rfl) (al_move (by kernel_rfl)) ?_
        refine lm_p (d := some 44) (by kernel_rfl) rfl (by kernel_rfl) (by rw [hb_2]; kernel_rfl) (p_sEq (by kernel_rfl) (by kernel_rfl) H) (fun x44 H => ?_)
        refine lm_al (x := x44) (d := some 45) (by kernel_rfl) rfl (by kernel_rfl) (by kernel_rfl) (al_pick_t (by rw [hb_2]; kernel_rfl) (by kernel_rfl)) ?_
        refine lm_nil ?_
        exact ⟨(fun i => ([x21, x1, x44]).getD i undef), x44, by kernel_rfl, HA_9, H⟩
      · refine lm_skip (d := some 42) (by kernel_rfl) rfl (by rw [hb_2]; kernel_rfl) ?_
        refine lm_skip (d := some 43) (by kernel_rfl) rfl (by rw [hb_2]; kernel_rfl) ?_
        refine lm_skip (d := some 44) (by kernel_rfl) rfl (by rw [hb_2]; kernel_rfl) ?_
        refine lm_al (x := (.bool false)) (d := some 45) (by kernel_rfl) rfl (by kernel_rfl) (by kernel_rfl) (al_pick_f (by rw [hb_2]; kernel_rfl) (by kernel_rfl)) ?_
        refine lm_nil ?_
        exact ⟨(fun i => ([undef, undef, undef]).getD i undef), (.bool false), by kernel_rfl, HA_9, H⟩
      · rintro _ w_10 ⟨D_2, x45, rfl, HA_10, H⟩
        refine lm_al (x := x45) (d := some 46) (by kernel_rfl) rfl (by kernel_rfl) (by kernel_rfl) (al_move (by kernel_rfl)) ?_
        refine lm_and [(), ()] (fun K a w => ∃ (D_3 : Nat → Value) (x48 : Value), a = ⟨#[x0, x1, x2, undef, (.bool false), x5, x6, x21, x22, x9, x10, x11, x12, x13, x14, x15, x16, x20, x18, x1, x20, x21, x22, x23, x24, x25, x25, (D 0), (D 1), (D 2), (D 3), (D 4), (D 5), (D 6), x34, x34, (D_1 0), (D_1 1), (D_1 2), (D_1 3), x40, x40, (D_2 0), (D_2 1), (D_2 2), x45, x45, (D_3 0), x48, undef, undef, undef], []⟩ ∧ At w0 w h_8 ∧ K x48) H (fun hb_1 H => ?_) (fun hb_1 H => ?_) ?_
        · refine lm_al (x := x22) (d := some 47) (by kernel_rfl) rfl (by kernel_rfl) (by rw [hb_1]; kernel_rfl) (al_move (by kernel_rfl)) ?_
          refine lm_al (x := x22) (d := some 48) (by kernel_rfl) rfl (by kernel_rfl) (by kernel_rfl) (al_pick_t (by rw [hb_1]; kernel_rfl) (by kernel_rfl)) ?_
          refine lm_nil ?_
          exact ⟨(fun i => ([x22]).getD i undef), x22, by kernel_rfl, HA_10, H⟩
        · refine lm_skip (d := some 47) (by kernel_rfl) rfl (by rw [hb_1]; kernel_rfl) ?_
          refine lm_al (x := (.bool false)) (d := some 48) (by kernel_rfl) rfl (by kernel_rfl) (by kernel_rfl) (al_pick_f (by rw [hb_1]; kernel_rfl) (by kernel_rfl)) ?_
          refine lm_nil ?_
          exact ⟨(fun i => ([undef]).getD i undef), (.bool false), by kernel_rfl, HA_10, H⟩
        · rintro _ w_11 ⟨D_3, x48, rfl, HA_11, H⟩
          refine lm_al (x := x48) (d := some 49) (by kernel_rfl) rfl (by kernel_rfl) (by kernel_rfl) (al_move (by kernel_rfl)) ?_
          refine lm_andh [(), ()] (fun K a w => ∃ (D_4 : Nat → Value) (x51 : Value) (h_9 : Heap), a = ⟨#[x0, x1, x2, undef, (.bool false), x5, x6, x21, x22, x9, x10, x11, x12, x13, x14, x15, x16, x20, x18, x1, x20, x21, x22, x23, x24, x25, x25, (D 0), (D 1), (D 2), (D 3), (D 4), (D 5), (D 6), x34, x34, (D_1 0), (D_1 1), (D_1 2), (D_1 3), x40, x40, (D_2 0), (D_2 1), (D_2 2), x45, x45, (D_3 0), x48, x48, (D_4 0), x51], []⟩ ∧ At w0 w h_9 ∧ K x51 h_9) H (fun hb H => ?_) (fun hb H => ?_) ?_
          · refine lm_d (d := some 50) (by kernel_rfl) rfl (by kernel_rfl) (by kernel_rfl) (by rw [hb]; kernel_rfl) HA_11 (d_call (by kernel_rfl) (by kernel_rfl) H) (fun x50 h_10 w_13 H HA_13 => ?_)
            refine lm_al (x := x50) (d := some 51) (by kernel_rfl) rfl (by kernel_rfl) (by kernel_rfl) (al_pick_t (by rw [hb]; kernel_rfl) (by kernel_rfl)) ?_
            refine lm_nil ?_
            exact ⟨(fun i => ([x50]).getD i undef), x50, h_10, by kernel_rfl, HA_13, H⟩
          · refine lm_skip (d := some 50) (by kernel_rfl) rfl (by rw [hb]; kernel_rfl) ?_
            refine lm_al (x := (.bool false)) (d := some 51) (by kernel_rfl) rfl (by kernel_rfl) (by kernel_rfl) (al_pick_f (by rw [hb]; kernel_rfl) (by kernel_rfl)) ?_
            refine lm_nil ?_
            exact ⟨(fun i => ([undef]).getD i undef), (.bool false), h_8, by kernel_rfl, HA_11, H⟩
          · rintro _ w_12 ⟨D_4, x51, h_9, rfl, HA_12, H⟩
            refine lm_al (x := x51) (d := some 4) (by kernel_rfl) rfl (by kernel_rfl) (by kernel_rfl) (al_assign (by kernel_rfl)) ?_
            refine lm_nil ?_
            refine then_normal ?_
            refine fr_eq (b := ⟨#[x0, x1, x2, undef, x51, x5, x6, x21, x22, x9, x10, x11, x12, x13, x14, x15, x16, x20, x18, x1, x20, x21, x22, x23, x24, x25, x25, (D 0), (D 1), (D 2), (D 3), (D 4), (D 5), (D 6), x34, x34, (D_1 0), (D_1 1), (D_1 2), (D_1 3), x40, x40, (D_2 0), (D_2 1), (D_2 2), x45, x45, (D_3 0), x48, x48, (D_4 0), x51], []⟩) (by kernel_rfl) ?_
            refine wp_ret ?_
            exact end1 (Try.results5) (by kernel_rfl) (by kernel_rfl) HA_12 H _ (.inr rfl)

end Go.Proofs.Ytpgpbhbpamgboaa
