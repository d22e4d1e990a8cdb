/- The shallow reading of one function, and that the function does it. Written by a program. -/
import Derived.Test.YtpgpbhbpamgboaaFnC
set_option linter.unusedVariables false
namespace Go.Proofs.Ytpgpbhbpamgboaa
open Go Go.HW

def betonylaw17_TermiosStrip_S (x0 x1 : Value) (h : Heap) (R : Value → Heap → Prop) : Prop :=
  sBox h x0 24 fun x2 h => 
  sOff x2 0 fun x11 =>
  sLd h x11 fun x12 =>
  sBits .or .i64 x12 (.int .i64 1) fun x13 =>
  sOff x2 0 fun x14 =>
  sSt h x14 x13 fun h_1 => 
  sLdN h_1 x2 17 fun x16 =>
  termios_Map_c x16 x1 h_1 fun x18 h_2 => 
  sTup x18 0 fun x19 =>
  sTup x18 1 fun x20 =>
  sLdN h_2 x2 17 fun x22 =>
  sRem .u8 x1 (.int .u8 128) fun x24 =>
  termios_Map_c x22 x24 h_2 fun x25 h_3 => 
  sTup x25 0 fun x26 =>
  sTup x25 1 fun x27 =>
  sOff x2 0 fun x28 =>
  sLd h_3 x28 fun x29 =>
  sBits .andNot .i64 x29 (.int .i64 1) fun x30 =>
  sOff x2 0 fun x31 =>
  sSt h_3 x31 x30 fun h_4 => 
  sLdN h_4 x2 17 fun x33 =>
  sRem .u8 x1 (.int .u8 128) fun x35 =>
  termios_Map_c x33 x35 h_4 fun x36 h_5 => 
  sTup x36 0 fun x37 =>
  sTup x36 1 fun x38 =>
  sEq x19 x26 fun x41 =>
  sAnd x41 (fun k_5 =>
  sEqlB x20 x27 fun x45 =>
  k_5 x45) fun x46 =>
  sAnd x46 (fun k_4 =>
  sEq x26 x37 fun x50 =>
  k_4 x50) fun x51 =>
  sAnd x51 (fun k_3 =>
  sEqlB x27 x38 fun x55 =>
  k_3 x55) fun x56 =>
  sAnd x56 (fun k_1 =>
  sOr x20 (fun k_2 =>
  sRem .u8 x1 (.int .u8 128) fun x61 =>
  sEq x61 (.int .u8 13) fun x62 =>
  k_2 x62) fun x63 =>
  k_1 x63) fun x64 =>
  sAndH x64 h_5 (fun k =>
  betonylaw17_awake_c  h_5 fun x66 h_7 => 
  k x66 h_7) fun x67 h_6 =>
  R x67 h_6
set_option maxRecDepth 100000 in
theorem betonylaw17_TermiosStrip_runs {x0 x1 : Value} {h : Heap} {R : Value → Heap → Prop} (H : betonylaw17_TermiosStrip_S x0 x1 h R) : betonylaw17_TermiosStrip_c x0 x1 h R := by
  unfold betonylaw17_TermiosStrip_S at H
  refine runs_of (b := ⟨([x0, x1, undef, undef, undef, undef, undef, undef, undef, undef, undef, undef, undef, undef, undef, undef, undef, undef, undef, undef, undef, undef, undef, undef, undef, undef, undef, undef, undef, undef, undef, undef, undef, undef, undef, undef, undef, undef, undef, undef, undef, undef, undef, undef, undef, undef, undef, undef, undef, undef] ++ [undef, undef, undef, undef, undef, undef, undef, undef, undef, undef, undef, undef, undef, undef, undef, undef, undef, undef]).toArray, []⟩) Try.call3 Try.func3 rfl (by kernel_rfl) (fun w0 HA => ?_)
  refine wp_seq ?_
  refine lwp_list ?_
  refine ls_d (d := some 2) (by kernel_rfl) (by kernel_rfl) HA (d_box (by kernel_rfl) H) (fun x2 h w H HA => ?_)
  refine ls_assign (x := (.bool false)) (by kernel_rfl) (by kernel_rfl) ?_
  refine ls_nil ?_
  refine then_normal ?_
  refine fr_eq (b := ⟨([x0, x1, x2, undef, (.bool false), undef, undef, undef, undef, undef, undef, undef, undef, undef, undef, undef, undef, undef, undef, undef, undef, undef, undef, undef, undef, undef, undef, undef, undef, undef, undef, undef, undef, undef, undef, undef, undef, undef, undef, undef, undef, undef, undef, undef, undef, undef, undef, undef, undef, undef] ++ [undef, undef, undef, undef, undef, undef, undef, undef, undef, undef, undef, undef, undef, undef, undef, undef, undef, undef]).toArray, []⟩) (by kernel_rfl) ?_
  refine wp_seq ?_
  refine lwp_list ?_
  refine ls_p (d := some 11) (by kernel_rfl) (by kernel_rfl) (p_off Try.underlying24 rfl (fun w => ⟨_, Try.sizeOf3 w⟩) rfl (by kernel_rfl) H) (fun x11 H => ?_)
  refine ls_y (d := some 12) (by kernel_rfl) (by kernel_rfl) HA (y_ld Try.isAgg3 (by kernel_rfl) H) (fun x12 H => ?_)
  refine ls_p (d := some 13) (by kernel_rfl) (by kernel_rfl) (p_bits (by decide) (by kernel_rfl) (by kernel_rfl) H) (fun x13 H => ?_)
  refine ls_p (d := some 14) (by kernel_rfl) (by kernel_rfl) (p_off Try.underlying24 rfl (fun w => ⟨_, Try.sizeOf3 w⟩) rfl (by kernel_rfl) H) (fun x14 H => ?_)
  refine ls_d (d := none) (by kernel_rfl) (by kernel_rfl) HA (d_st Try.sizeOf3 (by kernel_rfl) (by kernel_rfl) H) (fun _ h_1 w_1 H HA_1 => ?_)
  refine ls_nil ?_
  refine then_normal ?_
  refine fr_eq (b := ⟨([x0, x1, x2, undef, (.bool false), undef, undef, undef, undef, undef, undef, x11, x12, x13, x14, undef, undef, undef, undef, undef, undef, undef, undef, undef, undef, undef, undef, undef, undef, undef, undef, undef, undef, undef, undef, undef, undef, undef, undef, undef, undef, undef, undef, undef, undef, undef, undef, undef, undef, undef] ++ [undef, undef, undef, undef, undef, undef, undef, undef, undef, undef, undef, undef, undef, undef, undef, undef, undef, undef]).toArray, []⟩) (by kernel_rfl) ?_
  refine wp_seq ?_
  refine lwp_list ?_
  refine ls_y (d := some 16) (by kernel_rfl) (by kernel_rfl) HA_1 (y_ldn Try.isAgg24 Try.sizeOf24 (by kernel_rfl) H) (fun x16 H => ?_)
  refine ls_move (x := x1) (by kernel_rfl) (by kernel_rfl) ?_
  refine ls_d (d := some 18) (by kernel_rfl) (by kernel_rfl) HA_1 (d_call (by kernel_rfl) (by kernel_rfl) H) (fun x18 h_2 w_2 H HA_2 => ?_)
  refine ls_move (x := x18) (by kernel_rfl) (by kernel_rfl) ?_
  refine ls_p (d := some 19) (by kernel_rfl) (by kernel_rfl) (p_tup (by kernel_rfl) H) (fun x19 H => ?_)
  refine ls_p (d := some 20) (by kernel_rfl) (by kernel_rfl) (p_tup (by kernel_rfl) H) (fun x20 H => ?_)
  refine ls_fr (b := ⟨([x0, x1, x2, undef, (.bool false), undef, undef, undef, undef, undef, undef, x11, x12, x13, x14, x18, x16, x1, x18, x19, x20, undef, undef, undef, undef, undef, undef, undef, undef, undef, undef, undef, undef, undef, undef, undef, undef, undef, undef, undef, undef, undef, undef, undef, undef, undef, undef, undef, undef, undef] ++ [undef, undef, undef, undef, undef, undef, undef, undef, undef, undef, undef, undef, undef, undef, undef, undef, undef, undef]).toArray, []⟩) (by kernel_rfl) ?_
  refine ls_assign (x := x19) (by kernel_rfl) (by kernel_rfl) ?_
  refine ls_assign (x := x20) (by kernel_rfl) (by kernel_rfl) ?_
  refine ls_nil ?_
  refine then_normal ?_
  refine fr_eq (b := ⟨([x0, x1, x2, undef, (.bool false), x19, x20, undef, undef, undef, undef, x11, x12, x13, x14, x18, x16, x1, x18, x19, x20, undef, undef, undef, undef, undef, undef, undef, undef, undef, undef, undef, undef, undef, undef, undef, undef, undef, undef, undef, undef, undef, undef, undef, undef, undef, undef, undef, undef, undef] ++ [undef, undef, undef, undef, undef, undef, undef, undef, undef, undef, undef, undef, undef, undef, undef, undef, undef, undef]).toArray, []⟩) (by kernel_rfl) ?_
  refine wp_seq ?_
  refine lwp_list ?_
  refine ls_y (d := some 22) (by kernel_rfl) (by kernel_rfl) HA_2 (y_ldn Try.isAgg24 Try.sizeOf24 (by kernel_rfl) H) (fun x22 H => ?_)
  refine ls_move (x := x1) (by kernel_rfl) (by kernel_rfl) ?_
  refine ls_p (d := some 24) (by kernel_rfl) (by kernel_rfl) (p_rem (by kernel_rfl) (by kernel_rfl) H) (fun x24 H => ?_)
  refine ls_d (d := some 25) (by kernel_rfl) (by kernel_rfl) HA_2 (d_call (by kernel_rfl) (by kernel_rfl) H) (fun x25 h_3 w_3 H HA_3 => ?_)
  refine ls_move (x := x25) (by kernel_rfl) (by kernel_rfl) ?_
  refine ls_p (d := some 26) (by kernel_rfl) (by kernel_rfl) (p_tup (by kernel_rfl) H) (fun x26 H => ?_)
  refine ls_fr (b := ⟨([x0, x1, x2, undef, (.bool false), x19, x20, undef, undef, undef, undef, x11, x12, x13, x14, x18, x16, x1, x18, x19, x20, x25, x22, x1, x24, x25, x26, undef, undef, undef, undef, undef, undef, undef, undef, undef, undef, undef, undef, undef, undef, undef, undef, undef, undef, undef, undef, undef, undef, undef] ++ [undef, undef, undef, undef, undef, undef, undef, undef, undef, undef, undef, undef, undef, undef, undef, undef, undef, undef]).toArray, []⟩) (by kernel_rfl) ?_
  refine ls_p (d := some 27) (by kernel_rfl) (by kernel_rfl) (p_tup (by kernel_rfl) H) (fun x27 H => ?_)
  refine ls_assign (x := x26) (by kernel_rfl) (by kernel_rfl) ?_
  refine ls_assign (x := x27) (by kernel_rfl) (by kernel_rfl) ?_
  refine ls_nil ?_
  refine then_normal ?_
  refine fr_eq (b := ⟨([x0, x1, x2, undef, (.bool false), x19, x20, x26, x27, undef, undef, x11, x12, x13, x14, x18, x16, x1, x18, x19, x20, x25, x22, x1, x24, x25, x26, x27, undef, undef, undef, undef, undef, undef, undef, undef, undef, undef, undef, undef, undef, undef, undef, undef, undef, undef, undef, undef, undef, undef] ++ [undef, undef, undef, undef, undef, undef, undef, undef, undef, undef, undef, undef, undef, undef, undef, undef, undef, undef]).toArray, []⟩) (by kernel_rfl) ?_
  refine wp_seq ?_
  refine lwp_list ?_
  refine ls_p (d := some 28) (by kernel_rfl) (by kernel_rfl) (p_off Try.underlying24 rfl (fun w => ⟨_, Try.sizeOf3 w⟩) rfl (by kernel_rfl) H) (fun x28 H => ?_)
  refine ls_y (d := some 29) (by kernel_rfl) (by kernel_rfl) HA_3 (y_ld Try.isAgg3 (by kernel_rfl) H) (fun x29 H => ?_)
  refine ls_p (d := some 30) (by kernel_rfl) (by kernel_rfl) (p_bits (by decide) (by kernel_rfl) (by kernel_rfl) H) (fun x30 H => ?_)
  refine ls_p (d := some 31) (by kernel_rfl) (by kernel_rfl) (p_off Try.underlying24 rfl (fun w => ⟨_, Try.sizeOf3 w⟩) rfl (by kernel_rfl) H) (fun x31 H => ?_)
  refine ls_d (d := none) (by kernel_rfl) (by kernel_rfl) HA_3 (d_st Try.sizeOf3 (by kernel_rfl) (by kernel_rfl) H) (fun _ h_4 w_4 H HA_4 => ?_)
  refine ls_nil ?_
  refine then_normal ?_
  refine fr_eq (b := ⟨([x0, x1, x2, undef, (.bool false), x19, x20, x26, x27, undef, undef, x11, x12, x13, x14, x18, x16, x1, x18, x19, x20, x25, x22, x1, x24, x25, x26, x27, x28, x29, x30, x31, undef, undef, undef, undef, undef, undef, undef, undef, undef, undef, undef, undef, undef, undef, undef, undef, undef, undef] ++ [undef, undef, undef, undef, undef, undef, undef, undef, undef, undef, undef, undef, undef, undef, undef, undef, undef, undef]).toArray, []⟩) (by kernel_rfl) ?_
  refine wp_seq ?_
  refine lwp_list ?_
  refine ls_y (d := some 33) (by kernel_rfl) (by kernel_rfl) HA_4 (y_ldn Try.isAgg24 Try.sizeOf24 (by kernel_rfl) H) (fun x33 H => ?_)
  refine ls_move (x := x1) (by kernel_rfl) (by kernel_rfl) ?_
  refine ls_p (d := some 35) (by kernel_rfl) (by kernel_rfl) (p_rem (by kernel_rfl) (by kernel_rfl) H) (fun x35 H => ?_)
  refine ls_d (d := some 36) (by kernel_rfl) (by kernel_rfl) HA_4 (d_call (by kernel_rfl) (by kernel_rfl) H) (fun x36 h_5 w_5 H HA_5 => ?_)
  refine ls_move (x := x36) (by kernel_rfl) (by kernel_rfl) ?_
  refine ls_p (d := some 37) (by kernel_rfl) (by kernel_rfl) (p_tup (by kernel_rfl) H) (fun x37 H => ?_)
  refine ls_fr (b := ⟨([x0, x1, x2, undef, (.bool false), x19, x20, x26, x27, undef, undef, x11, x12, x13, x14, x18, x16, x1, x18, x19, x20, x25, x22, x1, x24, x25, x26, x27, x28, x29, x30, x31, x36, x33, x1, x35, x36, x37, undef, undef, undef, undef, undef, undef, undef, undef, undef, undef, undef, undef] ++ [undef, undef, undef, undef, undef, undef, undef, undef, undef, undef, undef, undef, undef, undef, undef, undef, undef, undef]).toArray, []⟩) (by kernel_rfl) ?_
  refine ls_p (d := some 38) (by kernel_rfl) (by kernel_rfl) (p_tup (by kernel_rfl) H) (fun x38 H => ?_)
  refine ls_assign (x := x37) (by kernel_rfl) (by kernel_rfl) ?_
  refine ls_assign (x := x38) (by kernel_rfl) (by kernel_rfl) ?_
  refine ls_nil ?_
  refine then_normal ?_
  refine fr_eq (b := ⟨([x0, x1, x2, undef, (.bool false), x19, x20, x26, x27, x37, x38, x11, x12, x13, x14, x18, x16, x1, x18, x19, x20, x25, x22, x1, x24, x25, x26, x27, x28, x29, x30, x31, x36, x33, x1, x35, x36, x37, x38, undef, undef, undef, undef, undef, undef, undef, undef, undef, undef, undef] ++ [undef, undef, undef, undef, undef, undef, undef, undef, undef, undef, undef, undef, undef, undef, undef, undef, undef, undef]).toArray, []⟩) (by kernel_rfl) ?_
  refine wp_seq ?_
  refine lwp_list ?_
  refine ls_move (x := x19) (by kernel_rfl) (by kernel_rfl) ?_
  refine ls_move (x := x26) (by kernel_rfl) (by kernel_rfl) ?_
  refine ls_p (d := some 41) (by kernel_rfl) (by kernel_rfl) (p_sEq (by kernel_rfl) (by kernel_rfl) H) (fun x41 H => ?_)
  refine ls_move (x := x41) (by kernel_rfl) (by kernel_rfl) ?_
  refine ls_and [(), (), (), ()] (fun K a w => ∃ (D : Nat → Value) (x46 : Value), a = ⟨([x0, x1, x2, undef, (.bool false), x19, x20, x26, x27, x37, x38, x11, x12, x13, x14, x18, x16, x1, x18, x19, x20, x25, x22, x1, x24, x25, x26, x27, x28, x29, x30, x31, x36, x33, x1, x35, x36, x37, x38, x19, x26, x41, x41, (D 0), (D 1), (D 2), x46, undef, undef, undef] ++ [undef, undef, undef, undef, undef, undef, undef, undef, undef, undef, undef, undef, undef, undef, undef, undef, undef, undef]).toArray, []⟩ ∧ At w0 w h_5 ∧ K x46) H (fun hb_5 H => ?_) (fun hb_5 H => ?_) ?_
  · refine ls_move (x := x20) (by rw [hb_5]; kernel_rfl) (by kernel_rfl) ?_
    refine ls_move (x := x27) (by rw [hb_5]; kernel_rfl) (by kernel_rfl) ?_
    refine ls_fr (b := ⟨([x0, x1, x2, undef, (.bool false), x19, x20, x26, x27, x37, x38, x11, x12, x13, x14, x18, x16, x1, x18, x19, x20, x25, x22, x1, x24, x25, x26, x27, x28, x29, x30, x31, x36, x33, x1, x35, x36, x37, x38, x19, x26, x41, x41, x20, x27, undef, undef, undef, undef, undef] ++ [undef, undef, undef, undef, undef, undef, undef, undef, undef, undef, undef, undef, undef, undef, undef, undef, undef, undef]).toArray, []⟩) (by kernel_rfl) ?_
    refine ls_p (d := some 45) (by kernel_rfl) (by rw [hb_5]; kernel_rfl) (p_eqlB Try.underlying4 (by kernel_rfl) (by kernel_rfl) H) (fun x45 H => ?_)
    refine ls_pick_t (x := x45) (by kernel_rfl) (by rw [hb_5]; kernel_rfl) (by kernel_rfl) ?_
    refine ls_nil ?_
    refine then_normal ?_
    exact ⟨(fun i => ([x20, x27, x45]).getD i undef), x45, by kernel_rfl, HA_5, H⟩
  · refine ls_skip (d := some 43) (by kernel_rfl) (by rw [hb_5]; kernel_rfl) ?_
    refine ls_skip (d := some 44) (by kernel_rfl) (by rw [hb_5]; kernel_rfl) ?_
    refine ls_fr (b := ⟨([x0, x1, x2, undef, (.bool false), x19, x20, x26, x27, x37, x38, x11, x12, x13, x14, x18, x16, x1, x18, x19, x20, x25, x22, x1, x24, x25, x26, x27, x28, x29, x30, x31, x36, x33, x1, x35, x36, x37, x38, x19, x26, x41, x41, undef, undef, undef, undef, undef, undef, undef] ++ [undef, undef, undef, undef, undef, undef, undef, undef, undef, undef, undef, undef, undef, undef, undef, undef, undef, undef]).toArray, []⟩) (by kernel_rfl) ?_
    refine ls_skip (d := some 45) (by kernel_rfl) (by rw [hb_5]; kernel_rfl) ?_
    refine ls_pick_f (y := (.bool false)) (by kernel_rfl) (by rw [hb_5]; kernel_rfl) (by kernel_rfl) ?_
    refine ls_nil ?_
    refine then_normal ?_
    exact ⟨(fun i => ([undef, undef, undef]).getD i undef), (.bool false), by kernel_rfl, HA_5, H⟩
  · rintro _ w_6 ⟨D, x46, rfl, HA_6, H⟩
    refine ls_move (x := x46) (by kernel_rfl) (by kernel_rfl) ?_
    refine ls_and [(), (), (), ()] (fun K a w => ∃ (D_1 : Nat → Value) (x51 : Value), a = ⟨([x0, x1, x2, undef, (.bool false), x19, x20, x26, x27, x37, x38, x11, x12, x13, x14, x18, x16, x1, x18, x19, x20, x25, x22, x1, x24, x25, x26, x27, x28, x29, x30, x31, x36, x33, x1, x35, x36, x37, x38, x19, x26, x41, x41, (D 0), (D 1), (D 2), x46, x46, (D_1 0), (D_1 1)] ++ [(D_1 2), x51, undef, undef, undef, undef, undef, undef, undef, undef, undef, undef, undef, undef, undef, undef, undef, undef]).toArray, []⟩ ∧ At w0 w h_5 ∧ K x51) H (fun hb_4 H => ?_) (fun hb_4 H => ?_) ?_
    · refine ls_move (x := x26) (by rw [hb_4]; kernel_rfl) (by kernel_rfl) ?_
      refine ls_move (x := x37) (by rw [hb_4]; kernel_rfl) (by kernel_rfl) ?_
      refine ls_p (d := some 50) (by kernel_rfl) (by rw [hb_4]; kernel_rfl) (p_sEq (by kernel_rfl) (by kernel_rfl) H) (fun x50 H => ?_)
      refine ls_pick_t (x := x50) (by kernel_rfl) (by rw [hb_4]; kernel_rfl) (by kernel_rfl) ?_
      refine ls_nil ?_
      refine then_normal ?_
      exact ⟨(fun i => ([x26, x37, x50]).getD i undef), x50, by kernel_rfl, HA_6, H⟩
    · refine ls_skip (d := some 48) (by kernel_rfl) (by rw [hb_4]; kernel_rfl) ?_
      refine ls_skip (d := some 49) (by kernel_rfl) (by rw [hb_4]; kernel_rfl) ?_
      refine ls_skip (d := some 50) (by kernel_rfl) (by rw [hb_4]; kernel_rfl) ?_
      refine ls_pick_f (y := (.bool false)) (by kernel_rfl) (by rw [hb_4]; kernel_rfl) (by kernel_rfl) ?_
      refine ls_nil ?_
      refine then_normal ?_
      exact ⟨(fun i => ([undef, undef, undef]).getD i undef), (.bool false), by kernel_rfl, HA_6, H⟩
    · rintro _ w_7 ⟨D_1, x51, rfl, HA_7, H⟩
      refine ls_move (x := x51) (by kernel_rfl) (by kernel_rfl) ?_
      refine ls_and [(), (), (), ()] (fun K a w => ∃ (D_2 : Nat → Value) (x56 : Value), a = ⟨([x0, x1, x2, undef, (.bool false), x19, x20, x26, x27, x37, x38, x11, x12, x13, x14, x18, x16, x1, x18, x19, x20, x25, x22, x1, x24, x25, x26, x27, x28, x29, x30, x31, x36, x33, x1, x35, x36, x37, x38, x19, x26, x41, x41, (D 0), (D 1), (D 2), x46, x46, (D_1 0), (D_1 1)] ++ [(D_1 2), x51, x51, (D_2 0), (D_2 1), (D_2 2), x56, undef, undef, undef, undef, undef, undef, undef, undef, undef, undef, undef]).toArray, []⟩ ∧ At w0 w h_5 ∧ K x56) H (fun hb_3 H => ?_) (fun hb_3 H => ?_) ?_
      · refine ls_move (x := x27) (by rw [hb_3]; kernel_rfl) (by kernel_rfl) ?_
        refine ls_move (x := x38) (by rw [hb_3]; kernel_rfl) (by kernel_rfl) ?_
        refine ls_p (d := some 55) (by kernel_rfl) (by rw [hb_3]; kernel_rfl) (p_eqlB Try.underlying4 (by kernel_rfl) (by kernel_rfl) H) (fun x55 H => ?_)
        refine ls_pick_t (x := x55) (by kernel_rfl) (by rw [hb_3]; kernel_rfl) (by kernel_rfl) ?_
        refine ls_nil ?_
        refine then_normal ?_
        exact ⟨(fun i => ([x27, x38, x55]).getD i undef), x55, by kernel_rfl, HA_7, H⟩
      · refine ls_skip (d := some 53) (by kernel_rfl) (by rw [hb_3]; kernel_rfl) ?_
        refine ls_skip (d := some 54) (by kernel_rfl) (by rw [hb_3]; kernel_rfl) ?_
        refine ls_skip (d := some 55) (by kernel_rfl) (by rw [hb_3]; kernel_rfl) ?_
        refine ls_pick_f (y := (.bool false)) (by kernel_rfl) (by rw [hb_3]; kernel_rfl) (by kernel_rfl) ?_
        refine ls_nil ?_
        refine then_normal ?_
        exact ⟨(fun i => ([undef, undef, undef]).getD i undef), (.bool false), by kernel_rfl, HA_7, H⟩
      · rintro _ w_8 ⟨D_2, x56, rfl, HA_8, H⟩
        refine ls_move (x := x56) (by kernel_rfl) (by kernel_rfl) ?_
        refine ls_and [(), (), (), (), (), (), ()] (fun K a w => ∃ (D_3 : Nat → Value) (x64 : Value), a = ⟨([x0, x1, x2, undef, (.bool false), x19, x20, x26, x27, x37, x38, x11, x12, x13, x14, x18, x16, x1, x18, x19, x20, x25, x22, x1, x24, x25, x26, x27, x28, x29, x30, x31, x36, x33, x1, x35, x36, x37, x38, x19, x26, x41, x41, (D 0), (D 1), (D 2), x46, x46, (D_1 0), (D_1 1)] ++ [(D_1 2), x51, x51, (D_2 0), (D_2 1), (D_2 2), x56, x56, (D_3 0), (D_3 1), (D_3 2), (D_3 3), (D_3 4), (D_3 5), x64, undef, undef, undef]).toArray, []⟩ ∧ At w0 w h_5 ∧ K x64) H (fun hb_1 H => ?_) (fun hb_1 H => ?_) ?_
        · refine ls_move (x := x20) (by rw [hb_1]; kernel_rfl) (by kernel_rfl) ?_
          refine ls_move (x := x20) (by rw [hb_1]; kernel_rfl) (by kernel_rfl) ?_
          refine ls_or [(), (), (), ()] (fun K a w => ∃ (D_5 : Nat → Value) (x63 : Value), a = ⟨([x0, x1, x2, undef, (.bool false), x19, x20, x26, x27, x37, x38, x11, x12, x13, x14, x18, x16, x1, x18, x19, x20, x25, x22, x1, x24, x25, x26, x27, x28, x29, x30, x31, x36, x33, x1, x35, x36, x37, x38, x19, x26, x41, x41, (D 0), (D 1), (D 2), x46, x46, (D_1 0), (D_1 1)] ++ [(D_1 2), x51, x51, (D_2 0), (D_2 1), (D_2 2), x56, x56, x20, x20, (D_5 0), (D_5 1), (D_5 2), x63, undef, undef, undef, undef]).toArray, []⟩ ∧ At w0 w h_5 ∧ K x63) H (fun hb_2 H => ?_) (fun hb_2 H => ?_) ?_
          · refine ls_move (x := x1) (by rw [hb_2]; kernel_rfl) (by kernel_rfl) ?_
            refine ls_p (d := some 61) (by kernel_rfl) (by rw [hb_2]; kernel_rfl) (p_rem (by kernel_rfl) (by kernel_rfl) H) (fun x61 H => ?_)
            refine ls_p (d := some 62) (by kernel_rfl) (by rw [hb_2]; kernel_rfl) (p_sEq (by kernel_rfl) (by kernel_rfl) H) (fun x62 H => ?_)
            refine ls_fr (b := ⟨([x0, x1, x2, undef, (.bool false), x19, x20, x26, x27, x37, x38, x11, x12, x13, x14, x18, x16, x1, x18, x19, x20, x25, x22, x1, x24, x25, x26, x27, x28, x29, x30, x31, x36, x33, x1, x35, x36, x37, x38, x19, x26, x41, x41, (D 0), (D 1), (D 2), x46, x46, (D_1 0), (D_1 1)] ++ [(D_1 2), x51, x51, (D_2 0), (D_2 1), (D_2 2), x56, x56, x20, x20, x1, x61, x62, undef, undef, undef, undef, undef]).toArray, []⟩) (by kernel_rfl) ?_
            refine ls_pick_f (y := x62) (by rw [hb_1]; kernel_rfl) (by rw [hb_2]; kernel_rfl) (by kernel_rfl) ?_
            refine ls_nil ?_
            refine then_normal ?_
            exact ⟨(fun i => ([x1, x61, x62]).getD i undef), x62, by kernel_rfl, HA_8, H⟩
          · refine ls_skip (d := some 60) (by kernel_rfl) (by rw [hb_2]; kernel_rfl) ?_
            refine ls_skip (d := some 61) (by kernel_rfl) (by rw [hb_2]; kernel_rfl) ?_
            refine ls_skip (d := some 62) (by kernel_rfl) (by rw [hb_2]; kernel_rfl) ?_
            refine ls_fr (b := ⟨([x0, x1, x2, undef, (.bool false), x19, x20, x26, x27, x37, x38, x11, x12, x13, x14, x18, x16, x1, x18, x19, x20, x25, x22, x1, x24, x25, x26, x27, x28, x29, x30, x31, x36, x33, x1, x35, x36, x37, x38, x19, x26, x41, x41, (D 0), (D 1), (D 2), x46, x46, (D_1 0), (D_1 1)] ++ [(D_1 2), x51, x51, (D_2 0), (D_2 1), (D_2 2), x56, x56, x20, x20, undef, undef, undef, undef, undef, undef, undef, undef]).toArray, []⟩) (by kernel_rfl) ?_
            refine ls_pick_t (x := (.bool true)) (by rw [hb_1]; kernel_rfl) (by rw [hb_2]; kernel_rfl) (by kernel_rfl) ?_
            refine ls_nil ?_
            refine then_normal ?_
            exact ⟨(fun i => ([undef, undef, undef]).getD i undef), (.bool true), by kernel_rfl, HA_8, H⟩
          · rintro _ w_12 ⟨D_5, x63, rfl, HA_12, H⟩
            refine ls_pick_t (x := x63) (by kernel_rfl) (by rw [hb_1]; kernel_rfl) (by kernel_rfl) ?_
            refine ls_nil ?_
            refine then_normal ?_
            exact ⟨(fun i => ([x20, x20, (D_5 0), (D_5 1), (D_5 2), x63]).getD i undef), x63, by kernel_rfl, HA_12, H⟩
        · refine ls_skip (d := some 58) (by kernel_rfl) (by rw [hb_1]; kernel_rfl) ?_
          refine ls_skip (d := some 59) (by kernel_rfl) (by rw [hb_1]; kernel_rfl) ?_
          refine ls_skip (d := some 60) (by kernel_rfl) (by kernel_rfl) ?_
          refine ls_skip (d := some 61) (by kernel_rfl) (by kernel_rfl) ?_
          refine ls_skip (d := some 62) (by kernel_rfl) (by kernel_rfl) ?_
          refine ls_fr (b := ⟨([x0, x1, x2, undef, (.bool false), x19, x20, x26, x27, x37, x38, x11, x12, x13, x14, x18, x16, x1, x18, x19, x20, x25, x22, x1, x24, x25, x26, x27, x28, x29, x30, x31, x36, x33, x1, x35, x36, x37, x38, x19, x26, x41, x41, (D 0), (D 1), (D 2), x46, x46, (D_1 0), (D_1 1)] ++ [(D_1 2), x51, x51, (D_2 0), (D_2 1), (D_2 2), x56, x56, undef, undef, undef, undef, undef, undef, undef, undef, undef, undef]).toArray, []⟩) (by kernel_rfl) ?_
          refine ls_skip (d := some 63) (by kernel_rfl) (by rw [hb_1]; kernel_rfl) ?_
          refine ls_pick_f (y := (.bool false)) (by kernel_rfl) (by rw [hb_1]; kernel_rfl) (by kernel_rfl) ?_
          refine ls_nil ?_
          refine then_normal ?_
          exact ⟨(fun i => ([undef, undef, undef, undef, undef, undef]).getD i undef), (.bool false), by kernel_rfl, HA_8, H⟩
        · rintro _ w_9 ⟨D_3, x64, rfl, HA_9, H⟩
          refine ls_move (x := x64) (by kernel_rfl) (by kernel_rfl) ?_
          refine ls_andh [(), ()] (fun K a w => ∃ (D_4 : Nat → Value) (x67 : Value) (h_6 : Heap), a = ⟨([x0, x1, x2, undef, (.bool false), x19, x20, x26, x27, x37, x38, x11, x12, x13, x14, x18, x16, x1, x18, x19, x20, x25, x22, x1, x24, x25, x26, x27, x28, x29, x30, x31, x36, x33, x1, x35, x36, x37, x38, x19, x26, x41, x41, (D 0), (D 1), (D 2), x46, x46, (D_1 0), (D_1 1)] ++ [(D_1 2), x51, x51, (D_2 0), (D_2 1), (D_2 2), x56, x56, (D_3 0), (D_3 1), (D_3 2), (D_3 3), (D_3 4), (D_3 5), x64, x64, (D_4 0), x67]).toArray, []⟩ ∧ At w0 w h_6 ∧ K x67 h_6) H (fun hb H => ?_) (fun hb H => ?_) ?_
          · refine ls_d (d := some 66) (by kernel_rfl) (by rw [hb]; kernel_rfl) HA_9 (d_call (by kernel_rfl) (by kernel_rfl) H) (fun x66 h_7 w_11 H HA_11 => ?_)
            refine ls_pick_t (x := x66) (by kernel_rfl) (by rw [hb]; kernel_rfl) (by kernel_rfl) ?_
            refine ls_nil ?_
            refine then_normal ?_
            exact ⟨(fun i => ([x66]).getD i undef), x66, h_7, by kernel_rfl, HA_11, H⟩
          · refine ls_skip (d := some 66) (by kernel_rfl) (by rw [hb]; kernel_rfl) ?_
            refine ls_pick_f (y := (.bool false)) (by kernel_rfl) (by rw [hb]; kernel_rfl) (by kernel_rfl) ?_
            refine ls_nil ?_
            refine then_normal ?_
            exact ⟨(fun i => ([undef]).getD i undef), (.bool false), h_5, by kernel_rfl, HA_9, H⟩
          · rintro _ w_10 ⟨D_4, x67, h_6, rfl, HA_10, H⟩
            refine ls_assign (x := x67) (by kernel_rfl) (by kernel_rfl) ?_
            refine ls_nil ?_
            refine then_normal ?_
            refine fr_eq (b := ⟨([x0, x1, x2, undef, x67, x19, x20, x26, x27, x37, x38, x11, x12, x13, x14, x18, x16, x1, x18, x19, x20, x25, x22, x1, x24, x25, x26, x27, x28, x29, x30, x31, x36, x33, x1, x35, x36, x37, x38, x19, x26, x41, x41, (D 0), (D 1), (D 2), x46, x46, (D_1 0), (D_1 1)] ++ [(D_1 2), x51, x51, (D_2 0), (D_2 1), (D_2 2), x56, x56, (D_3 0), (D_3 1), (D_3 2), (D_3 3), (D_3 4), (D_3 5), x64, x64, (D_4 0), x67]).toArray, []⟩) (by kernel_rfl) ?_
            refine wp_ret ?_
            exact end1 (Try.results3) (by kernel_rfl) (by kernel_rfl) HA_10 H _ (.inr rfl)

end Go.Proofs.Ytpgpbhbpamgboaa
