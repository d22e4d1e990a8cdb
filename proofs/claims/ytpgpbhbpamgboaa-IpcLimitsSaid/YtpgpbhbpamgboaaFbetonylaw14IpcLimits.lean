/- The shallow reading of one function, and that the function does it. Written by a program. -/
import Derived.Test.YtpgpbhbpamgboaaFnC
set_option linter.unusedVariables false
namespace Go.Proofs.Ytpgpbhbpamgboaa
open Go Go.HW

def betonylaw14_IpcLimits_S (x0 x1 x2 : Value) (h : Heap) (R : Value → Heap → Prop) : Prop :=
  sConv .i64 x2 fun x16 =>
  sAdd .i64 (.int .i64 1) x16 fun x17 =>
  ipc_New_c x17 h fun x18 h => 
  sEqlNil x18 fun x20 =>
  sOrH x20 h (fun k_6 =>
  ipc_New_c (.int .i64 4097) h fun x22 h_15 => 
  sNeqNil x22 fun x23 =>
  k_6 x23 h_15) fun x24 h_1 =>
  sIf x24 (R (.bool false) h_1) (sMk h_1 (.int .i64 4096) (.int .i64 4096) #[.int .u8 0] 5 1 fun x25 h_2 => 
  sIxS x25 (.int .i64 4095) 1 fun x28 =>
  sSt h_2 x28 x0 fun h_3 => 
  ipc_Ring_Send_c x18 (.int .i64 1) x25 h_3 fun x31 h_4 => 
  sConv .i64 x1 fun x35 =>
  sRem .i64 x35 (.int .i64 2000) fun x36 =>
  sAdd .i64 (.int .i64 1) x36 fun x37 =>
  sAppZ h_4 x25 x37 #[.int .u8 0] 5 1 fun x38 h_5 => 
  ipc_Ring_Send_c x18 (.int .i64 1) x38 h_5 fun x39 h_6 => 
  ipc_Ring_Take_c x18 h_6 fun x42 h_7 => 
  sTup x42 0 fun x43 =>
  sTup x42 1 fun x44 =>
  sNew h_7 #[.int .i64 0, .slice none 0 0] 39 fun x11 h_8 => 
  sStN h_8 x11 x43 2 fun h_9 => 
  ipc_Ring_Take_c x18 h_9 fun x47 h_10 => 
  sTup x47 0 fun x48 =>
  sTup x47 1 fun x49 =>
  sNew h_10 #[.int .i64 0, .slice none 0 0] 39 fun x13 h_11 => 
  sStN h_11 x13 x48 2 fun h_12 => 
  sEq x31 (.int .i64 0) fun x51 =>
  sAnd x51 (fun k_5 =>
  sEq x39 (.int .i64 10) fun x54 =>
  k_5 x54) fun x55 =>
  sAnd x55 (fun k_4 =>
  k_4 x44) fun x58 =>
  sAnd x58 (fun k_3 =>
  sOff x11 1 fun x60 =>
  sLd h_12 x60 fun x61 =>
  sLen x61 fun x62 =>
  sEq x62 (.int .i64 4096) fun x63 =>
  k_3 x63) fun x64 =>
  sAnd x64 (fun k_2 =>
  sOff x11 1 fun x66 =>
  sLd h_12 x66 fun x67 =>
  sIxS x67 (.int .i64 4095) 1 fun x68 =>
  sLd h_12 x68 fun x69 =>
  sEq x69 x0 fun x71 =>
  k_2 x71) fun x72 =>
  sAnd x72 (fun k_1 =>
  sNot x49 fun x75 =>
  k_1 x75) fun x76 =>
  sAndH x76 h_12 (fun k =>
  betonylaw14_awake_c  h_12 fun x78 h_14 => 
  k x78 h_14) fun x79 h_13 =>
  R x79 h_13)
set_option maxRecDepth 100000 in
theorem betonylaw14_IpcLimits_runs {x0 x1 x2 : Value} {h : Heap} {R : Value → Heap → Prop} (H : betonylaw14_IpcLimits_S x0 x1 x2 h R) : betonylaw14_IpcLimits_c x0 x1 x2 h R := by
  unfold betonylaw14_IpcLimits_S at H
  refine runs_of (b := ⟨([x0, x1, x2, undef, undef, undef, undef, undef, undef, undef, undef, undef, undef, undef, undef, undef, undef, undef, undef, undef, undef, undef, undef, undef, undef, undef, undef, undef, undef, undef, undef, undef, undef, undef, undef, undef, undef, undef, undef, undef, undef, undef, undef, undef, undef, undef, undef, undef, undef, undef] ++ [undef, undef, undef, undef, undef, undef, undef, undef, undef, undef, undef, undef, undef, undef, undef, undef, undef, undef, undef, undef, undef, undef, undef, undef, undef, undef, undef, undef, undef, undef]).toArray, []⟩) Try.call9 Try.func9 rfl (by kernel_rfl) (fun w0 HA => ?_)
  refine wp_seq ?_
  refine lwp_list ?_
  refine ls_assign (x := (.bool false)) (by kernel_rfl) (by kernel_rfl) ?_
  refine ls_nil ?_
  refine then_normal ?_
  refine fr_eq (b := ⟨([x0, x1, x2, undef, undef, undef, (.bool false), undef, undef, undef, undef, undef, undef, undef, undef, undef, undef, undef, undef, undef, undef, undef, undef, undef, undef, undef, undef, undef, undef, undef, undef, undef, undef, undef, undef, undef, undef, undef, undef, undef, undef, undef, undef, undef, undef, undef, undef, undef, undef, undef] ++ [undef, undef, undef, undef, undef, undef, undef, undef, undef, undef, undef, undef, undef, undef, undef, undef, undef, undef, undef, undef, undef, undef, undef, undef, undef, undef, undef, undef, undef, undef]).toArray, []⟩) (by kernel_rfl) ?_
  refine wp_seq ?_
  refine lwp_list ?_
  refine ls_move (x := x2) (by kernel_rfl) (by kernel_rfl) ?_
  refine ls_p (d := some 16) (by kernel_rfl) (by kernel_rfl) (p_conv Try.underlying5 Try.underlying3 (by kernel_rfl) H) (fun x16 H => ?_)
  refine ls_p (d := some 17) (by kernel_rfl) (by kernel_rfl) (p_add (by kernel_rfl) (by kernel_rfl) H) (fun x17 H => ?_)
  refine ls_d (d := some 18) (by kernel_rfl) (by kernel_rfl) HA (d_call (by kernel_rfl) (by kernel_rfl) H) (fun x18 h w H HA => ?_)
  refine ls_assign (x := x18) (by kernel_rfl) (by kernel_rfl) ?_
  refine ls_nil ?_
  refine then_normal ?_
  refine fr_eq (b := ⟨([x0, x1, x2, undef, undef, undef, (.bool false), x18, undef, undef, undef, undef, undef, undef, undef, x2, x16, x17, x18, undef, undef, undef, undef, undef, undef, undef, undef, undef, undef, undef, undef, undef, undef, undef, undef, undef, undef, undef, undef, undef, undef, undef, undef, undef, undef, undef, undef, undef, undef, undef] ++ [undef, undef, undef, undef, undef, undef, undef, undef, undef, undef, undef, undef, undef, undef, undef, undef, undef, undef, undef, undef, undef, undef, undef, undef, undef, undef, undef, undef, undef, undef]).toArray, []⟩) (by kernel_rfl) ?_
  refine wp_seq ?_
  refine wp_seq ?_
  refine lwp_list ?_
  refine ls_move (x := x18) (by kernel_rfl) (by kernel_rfl) ?_
  refine ls_p (d := some 20) (by kernel_rfl) (by kernel_rfl) (p_eqlNil Try.underlying35 (by kernel_rfl) (by kernel_rfl) H) (fun x20 H => ?_)
  refine ls_move (x := x20) (by kernel_rfl) (by kernel_rfl) ?_
  refine ls_orh [(), (), ()] (fun K a w => ∃ (D : Nat → Value) (x24 : Value) (h_1 : Heap), a = ⟨([x0, x1, x2, undef, undef, undef, (.bool false), x18, undef, undef, undef, undef, undef, undef, undef, x2, x16, x17, x18, x18, x20, x20, (D 0), (D 1), x24, undef, undef, undef, undef, undef, undef, undef, undef, undef, undef, undef, undef, undef, undef, undef, undef, undef, undef, undef, undef, undef, undef, undef, undef, undef] ++ [undef, undef, undef, undef, undef, undef, undef, undef, undef, undef, undef, undef, undef, undef, undef, undef, undef, undef, undef, undef, undef, undef, undef, undef, undef, undef, undef, undef, undef, undef]).toArray, []⟩ ∧ At w0 w h_1 ∧ K x24 h_1) H (fun hb_6 H => ?_) (fun hb_6 H => ?_) ?_
  · refine ls_d (d := some 22) (by kernel_rfl) (by rw [hb_6]; kernel_rfl) HA (d_call (by kernel_rfl) (by kernel_rfl) H) (fun x22 h_15 w_20 H HA_20 => ?_)
    refine ls_p (d := some 23) (by kernel_rfl) (by rw [hb_6]; kernel_rfl) (p_neqNil Try.underlying35 (by kernel_rfl) (by kernel_rfl) H) (fun x23 H => ?_)
    refine ls_pick_f (y := x23) (by kernel_rfl) (by rw [hb_6]; kernel_rfl) (by kernel_rfl) ?_
    refine ls_nil ?_
    refine then_normal ?_
    exact ⟨(fun i => ([x22, x23]).getD i undef), x23, h_15, by kernel_rfl, HA_20, H⟩
  · refine ls_skip (d := some 22) (by kernel_rfl) (by rw [hb_6]; kernel_rfl) ?_
    refine ls_skip (d := some 23) (by kernel_rfl) (by rw [hb_6]; kernel_rfl) ?_
    refine ls_pick_t (x := (.bool true)) (by kernel_rfl) (by rw [hb_6]; kernel_rfl) (by kernel_rfl) ?_
    refine ls_nil ?_
    refine then_normal ?_
    exact ⟨(fun i => ([undef, undef]).getD i undef), (.bool true), h, by kernel_rfl, HA, H⟩
  · rintro _ w_1 ⟨D, x24, h_1, rfl, HA_1, H⟩
    refine ls_nil ?_
    refine then_normal ?_
    refine fr_eq (b := ⟨([x0, x1, x2, undef, undef, undef, (.bool false), x18, undef, undef, undef, undef, undef, undef, undef, x2, x16, x17, x18, x18, x20, x20, (D 0), (D 1), x24, undef, undef, undef, undef, undef, undef, undef, undef, undef, undef, undef, undef, undef, undef, undef, undef, undef, undef, undef, undef, undef, undef, undef, undef, undef] ++ [undef, undef, undef, undef, undef, undef, undef, undef, undef, undef, undef, undef, undef, undef, undef, undef, undef, undef, undef, undef, undef, undef, undef, undef, undef, undef, undef, undef, undef, undef]).toArray, []⟩) (by kernel_rfl) ?_
    refine wp_if rfl H (fun H => ?_) (fun H => ?_)
    · refine wp_seq ?_
      refine lwp_list ?_
      refine ls_assign (x := (.bool false)) (by kernel_rfl) (by kernel_rfl) ?_
      refine ls_nil ?_
      refine then_normal ?_
      refine fr_eq (b := ⟨([x0, x1, x2, undef, undef, undef, (.bool false), x18, undef, undef, undef, undef, undef, undef, undef, x2, x16, x17, x18, x18, x20, x20, (D 0), (D 1), x24, undef, undef, undef, undef, undef, undef, undef, undef, undef, undef, undef, undef, undef, undef, undef, undef, undef, undef, undef, undef, undef, undef, undef, undef, undef] ++ [undef, undef, undef, undef, undef, undef, undef, undef, undef, undef, undef, undef, undef, undef, undef, undef, undef, undef, undef, undef, undef, undef, undef, undef, undef, undef, undef, undef, undef, undef]).toArray, []⟩) (by kernel_rfl) ?_
      refine wp_ret ?_
      refine then_ret ?_
      exact end1 (Try.results9) (by kernel_rfl) (by kernel_rfl) HA_1 H _ (.inr rfl)
    · refine wp_skip ?_
      refine then_normal ?_
      refine fr_eq (b := ⟨([x0, x1, x2, undef, undef, undef, (.bool false), x18, undef, undef, undef, undef, undef, undef, undef, x2, x16, x17, x18, x18, x20, x20, (D 0), (D 1), x24, undef, undef, undef, undef, undef, undef, undef, undef, undef, undef, undef, undef, undef, undef, undef, undef, undef, undef, undef, undef, undef, undef, undef, undef, undef] ++ [undef, undef, undef, undef, undef, undef, undef, undef, undef, undef, undef, undef, undef, undef, undef, undef, undef, undef, undef, undef, undef, undef, undef, undef, undef, undef, undef, undef, undef, undef]).toArray, []⟩) (by kernel_rfl) ?_
      refine wp_seq ?_
      refine lwp_list ?_
      refine ls_d (d := some 25) (by kernel_rfl) (by kernel_rfl) HA_1 (d_mk (z := #[.int .u8 0]) Try.underlying37 Try.typeInfo5 Try.sizeOf5 Try.zeroValue5 (by kernel_rfl) (by kernel_rfl) H) (fun x25 h_2 w_2 H HA_2 => ?_)
      refine ls_assign (x := x25) (by kernel_rfl) (by kernel_rfl) ?_
      refine ls_nil ?_
      refine then_normal ?_
      refine fr_eq (b := ⟨([x0, x1, x2, undef, undef, undef, (.bool false), x18, x25, undef, undef, undef, undef, undef, undef, x2, x16, x17, x18, x18, x20, x20, (D 0), (D 1), x24, x25, undef, undef, undef, undef, undef, undef, undef, undef, undef, undef, undef, undef, undef, undef, undef, undef, undef, undef, undef, undef, undef, undef, undef, undef] ++ [undef, undef, undef, undef, undef, undef, undef, undef, undef, undef, undef, undef, undef, undef, undef, undef, undef, undef, undef, undef, undef, undef, undef, undef, undef, undef, undef, undef, undef, undef]).toArray, []⟩) (by kernel_rfl) ?_
      refine wp_seq ?_
      refine lwp_list ?_
      refine ls_move (x := x25) (by kernel_rfl) (by kernel_rfl) ?_
      refine ls_move (x := x0) (by kernel_rfl) (by kernel_rfl) ?_
      refine ls_p (d := some 28) (by kernel_rfl) (by kernel_rfl) (p_ixs Try.underlying37 Try.sizeOf5 (by kernel_rfl) (by kernel_rfl) H) (fun x28 H => ?_)
      refine ls_d (d := none) (by kernel_rfl) (by kernel_rfl) HA_2 (d_st Try.sizeOf5 (by kernel_rfl) (by kernel_rfl) H) (fun _ h_3 w_3 H HA_3 => ?_)
      refine ls_nil ?_
      refine then_normal ?_
      refine fr_eq (b := ⟨([x0, x1, x2, undef, undef, undef, (.bool false), x18, x25, undef, undef, undef, undef, undef, undef, x2, x16, x17, x18, x18, x20, x20, (D 0), (D 1), x24, x25, x25, x0, x28, undef, undef, undef, undef, undef, undef, undef, undef, undef, undef, undef, undef, undef, undef, undef, undef, undef, undef, undef, undef, undef] ++ [undef, undef, undef, undef, undef, undef, undef, undef, undef, undef, undef, undef, undef, undef, undef, undef, undef, undef, undef, undef, undef, undef, undef, undef, undef, undef, undef, undef, undef, undef]).toArray, []⟩) (by kernel_rfl) ?_
      refine wp_seq ?_
      refine lwp_list ?_
      refine ls_move (x := x18) (by kernel_rfl) (by kernel_rfl) ?_
      refine ls_move (x := x25) (by kernel_rfl) (by kernel_rfl) ?_
      refine ls_d (d := some 31) (by kernel_rfl) (by kernel_rfl) HA_3 (d_call (by kernel_rfl) (by kernel_rfl) H) (fun x31 h_4 w_4 H HA_4 => ?_)
      refine ls_assign (x := x31) (by kernel_rfl) (by kernel_rfl) ?_
      refine ls_nil ?_
      refine then_normal ?_
      refine fr_eq (b := ⟨([x0, x1, x2, undef, undef, undef, (.bool false), x18, x25, x31, undef, undef, undef, undef, undef, x2, x16, x17, x18, x18, x20, x20, (D 0), (D 1), x24, x25, x25, x0, x28, x18, x25, x31, undef, undef, undef, undef, undef, undef, undef, undef, undef, undef, undef, undef, undef, undef, undef, undef, undef, undef] ++ [undef, undef, undef, undef, undef, undef, undef, undef, undef, undef, undef, undef, undef, undef, undef, undef, undef, undef, undef, undef, undef, undef, undef, undef, undef, undef, undef, undef, undef, undef]).toArray, []⟩) (by kernel_rfl) ?_
      refine wp_seq ?_
      refine lwp_list ?_
      refine ls_move (x := x18) (by kernel_rfl) (by kernel_rfl) ?_
      refine ls_move (x := x25) (by kernel_rfl) (by kernel_rfl) ?_
      refine ls_move (x := x1) (by kernel_rfl) (by kernel_rfl) ?_
      refine ls_p (d := some 35) (by kernel_rfl) (by kernel_rfl) (p_conv Try.underlying50 Try.underlying3 (by kernel_rfl) H) (fun x35 H => ?_)
      refine ls_p (d := some 36) (by kernel_rfl) (by kernel_rfl) (p_rem (by kernel_rfl) (by kernel_rfl) H) (fun x36 H => ?_)
      refine ls_p (d := some 37) (by kernel_rfl) (by kernel_rfl) (p_add (by kernel_rfl) (by kernel_rfl) H) (fun x37 H => ?_)
      refine ls_fr (b := ⟨([x0, x1, x2, undef, undef, undef, (.bool false), x18, x25, x31, undef, undef, undef, undef, undef, x2, x16, x17, x18, x18, x20, x20, (D 0), (D 1), x24, x25, x25, x0, x28, x18, x25, x31, x18, x25, x1, x35, x36, x37, undef, undef, undef, undef, undef, undef, undef, undef, undef, undef, undef, undef] ++ [undef, undef, undef, undef, undef, undef, undef, undef, undef, undef, undef, undef, undef, undef, undef, undef, undef, undef, undef, undef, undef, undef, undef, undef, undef, undef, undef, undef, undef, undef]).toArray, []⟩) (by kernel_rfl) ?_
      refine ls_d (d := some 38) (by kernel_rfl) (by kernel_rfl) HA_4 (d_appz (z := #[.int .u8 0]) Try.underlying37 Try.underlying3 Try.typeInfo5 (by kernel_rfl) Try.sizeOf5 Try.zeroValue5 (by kernel_rfl) (by kernel_rfl) (by kernel_rfl) H) (fun x38 h_5 w_5 H HA_5 => ?_)
      refine ls_d (d := some 39) (by kernel_rfl) (by kernel_rfl) HA_5 (d_call (by kernel_rfl) (by kernel_rfl) H) (fun x39 h_6 w_6 H HA_6 => ?_)
      refine ls_assign (x := x39) (by kernel_rfl) (by kernel_rfl) ?_
      refine ls_nil ?_
      refine then_normal ?_
      refine fr_eq (b := ⟨([x0, x1, x2, undef, undef, undef, (.bool false), x18, x25, x31, x39, undef, undef, undef, undef, x2, x16, x17, x18, x18, x20, x20, (D 0), (D 1), x24, x25, x25, x0, x28, x18, x25, x31, x18, x25, x1, x35, x36, x37, x38, x39, undef, undef, undef, undef, undef, undef, undef, undef, undef, undef] ++ [undef, undef, undef, undef, undef, undef, undef, undef, undef, undef, undef, undef, undef, undef, undef, undef, undef, undef, undef, undef, undef, undef, undef, undef, undef, undef, undef, undef, undef, undef]).toArray, []⟩) (by kernel_rfl) ?_
      refine wp_seq ?_
      refine lwp_list ?_
      refine ls_move (x := x18) (by kernel_rfl) (by kernel_rfl) ?_
      refine ls_d (d := some 42) (by kernel_rfl) (by kernel_rfl) HA_6 (d_call (by kernel_rfl) (by kernel_rfl) H) (fun x42 h_7 w_7 H HA_7 => ?_)
      refine ls_move (x := x42) (by kernel_rfl) (by kernel_rfl) ?_
      refine ls_p (d := some 43) (by kernel_rfl) (by kernel_rfl) (p_tup (by kernel_rfl) H) (fun x43 H => ?_)
      refine ls_p (d := some 44) (by kernel_rfl) (by kernel_rfl) (p_tup (by kernel_rfl) H) (fun x44 H => ?_)
      refine ls_d (d := some 11) (by kernel_rfl) (by kernel_rfl) HA_7 (d_alloc Try.zeroValue39 H) (fun x11 h_8 w_8 H HA_8 => ?_)
      refine ls_fr (b := ⟨([x0, x1, x2, undef, undef, undef, (.bool false), x18, x25, x31, x39, x11, undef, undef, undef, x2, x16, x17, x18, x18, x20, x20, (D 0), (D 1), x24, x25, x25, x0, x28, x18, x25, x31, x18, x25, x1, x35, x36, x37, x38, x39, x42, x18, x42, x43, x44, undef, undef, undef, undef, undef] ++ [undef, undef, undef, undef, undef, undef, undef, undef, undef, undef, undef, undef, undef, undef, undef, undef, undef, undef, undef, undef, undef, undef, undef, undef, undef, undef, undef, undef, undef, undef]).toArray, []⟩) (by kernel_rfl) ?_
      refine ls_d (d := none) (by kernel_rfl) (by kernel_rfl) HA_8 (d_stn Try.sizeOf39 (by kernel_rfl) (by kernel_rfl) H) (fun _ h_9 w_9 H HA_9 => ?_)
      refine ls_assign (x := x44) (by kernel_rfl) (by kernel_rfl) ?_
      refine ls_nil ?_
      refine then_normal ?_
      refine fr_eq (b := ⟨([x0, x1, x2, undef, undef, undef, (.bool false), x18, x25, x31, x39, x11, x44, undef, undef, x2, x16, x17, x18, x18, x20, x20, (D 0), (D 1), x24, x25, x25, x0, x28, x18, x25, x31, x18, x25, x1, x35, x36, x37, x38, x39, x42, x18, x42, x43, x44, undef, undef, undef, undef, undef] ++ [undef, undef, undef, undef, undef, undef, undef, undef, undef, undef, undef, undef, undef, undef, undef, undef, undef, undef, undef, undef, undef, undef, undef, undef, undef, undef, undef, undef, undef, undef]).toArray, []⟩) (by kernel_rfl) ?_
      refine wp_seq ?_
      refine lwp_list ?_
      refine ls_move (x := x18) (by kernel_rfl) (by kernel_rfl) ?_
      refine ls_d (d := some 47) (by kernel_rfl) (by kernel_rfl) HA_9 (d_call (by kernel_rfl) (by kernel_rfl) H) (fun x47 h_10 w_10 H HA_10 => ?_)
      refine ls_move (x := x47) (by kernel_rfl) (by kernel_rfl) ?_
      refine ls_p (d := some 48) (by kernel_rfl) (by kernel_rfl) (p_tup (by kernel_rfl) H) (fun x48 H => ?_)
      refine ls_p (d := some 49) (by kernel_rfl) (by kernel_rfl) (p_tup (by kernel_rfl) H) (fun x49 H => ?_)
      refine ls_d (d := some 13) (by kernel_rfl) (by kernel_rfl) HA_10 (d_alloc Try.zeroValue39 H) (fun x13 h_11 w_11 H HA_11 => ?_)
      refine ls_fr (b := ⟨([x0, x1, x2, undef, undef, undef, (.bool false), x18, x25, x31, x39, x11, x44, x13, undef, x2, x16, x17, x18, x18, x20, x20, (D 0), (D 1), x24, x25, x25, x0, x28, x18, x25, x31, x18, x25, x1, x35, x36, x37, x38, x39, x42, x18, x42, x43, x44, x47, x18, x47, x48, x49] ++ [undef, undef, undef, undef, undef, undef, undef, undef, undef, undef, undef, undef, undef, undef, undef, undef, undef, undef, undef, undef, undef, undef, undef, undef, undef, undef, undef, undef, undef, undef]).toArray, []⟩) (by kernel_rfl) ?_
      refine ls_d (d := none) (by kernel_rfl) (by kernel_rfl) HA_11 (d_stn Try.sizeOf39 (by kernel_rfl) (by kernel_rfl) H) (fun _ h_12 w_12 H HA_12 => ?_)
      refine ls_assign (x := x49) (by kernel_rfl) (by kernel_rfl) ?_
      refine ls_nil ?_
      refine then_normal ?_
      refine fr_eq (b := ⟨([x0, x1, x2, undef, undef, undef, (.bool false), x18, x25, x31, x39, x11, x44, x13, x49, x2, x16, x17, x18, x18, x20, x20, (D 0), (D 1), x24, x25, x25, x0, x28, x18, x25, x31, x18, x25, x1, x35, x36, x37, x38, x39, x42, x18, x42, x43, x44, x47, x18, x47, x48, x49] ++ [undef, undef, undef, undef, undef, undef, undef, undef, undef, undef, undef, undef, undef, undef, undef, undef, undef, undef, undef, undef, undef, undef, undef, undef, undef, undef, undef, undef, undef, undef]).toArray, []⟩) (by kernel_rfl) ?_
      refine wp_seq ?_
      refine lwp_list ?_
      refine ls_move (x := x31) (by kernel_rfl) (by kernel_rfl) ?_
      refine ls_p (d := some 51) (by kernel_rfl) (by kernel_rfl) (p_sEq (by kernel_rfl) (by kernel_rfl) H) (fun x51 H => ?_)
      refine ls_move (x := x51) (by kernel_rfl) (by kernel_rfl) ?_
      refine ls_and [(), (), ()] (fun K a w => ∃ (D_1 : Nat → Value) (x55 : Value), a = ⟨([x0, x1, x2, undef, undef, undef, (.bool false), x18, x25, x31, x39, x11, x44, x13, x49, x2, x16, x17, x18, x18, x20, x20, (D 0), (D 1), x24, x25, x25, x0, x28, x18, x25, x31, x18, x25, x1, x35, x36, x37, x38, x39, x42, x18, x42, x43, x44, x47, x18, x47, x48, x49] ++ [x31, x51, x51, (D_1 0), (D_1 1), x55, undef, undef, undef, undef, undef, undef, undef, undef, undef, undef, undef, undef, undef, undef, undef, undef, undef, undef, undef, undef, undef, undef, undef, undef]).toArray, []⟩ ∧ At w0 w h_12 ∧ K x55) H (fun hb_5 H => ?_) (fun hb_5 H => ?_) ?_
      · refine ls_move (x := x39) (by rw [hb_5]; kernel_rfl) (by kernel_rfl) ?_
        refine ls_p (d := some 54) (by kernel_rfl) (by rw [hb_5]; kernel_rfl) (p_sEq (by kernel_rfl) (by kernel_rfl) H) (fun x54 H => ?_)
        refine ls_pick_t (x := x54) (by kernel_rfl) (by rw [hb_5]; kernel_rfl) (by kernel_rfl) ?_
        refine ls_nil ?_
        refine then_normal ?_
        exact ⟨(fun i => ([x39, x54]).getD i undef), x54, by kernel_rfl, HA_12, H⟩
      · refine ls_skip (d := some 53) (by kernel_rfl) (by rw [hb_5]; kernel_rfl) ?_
        refine ls_skip (d := some 54) (by kernel_rfl) (by rw [hb_5]; kernel_rfl) ?_
        refine ls_pick_f (y := (.bool false)) (by kernel_rfl) (by rw [hb_5]; kernel_rfl) (by kernel_rfl) ?_
        refine ls_nil ?_
        refine then_normal ?_
        exact ⟨(fun i => ([undef, undef]).getD i undef), (.bool false), by kernel_rfl, HA_12, H⟩
      · rintro _ w_13 ⟨D_1, x55, rfl, HA_13, H⟩
        refine ls_move (x := x55) (by kernel_rfl) (by kernel_rfl) ?_
        refine ls_and [(), ()] (fun K a w => ∃ (D_2 : Nat → Value) (x58 : Value), a = ⟨([x0, x1, x2, undef, undef, undef, (.bool false), x18, x25, x31, x39, x11, x44, x13, x49, x2, x16, x17, x18, x18, x20, x20, (D 0), (D 1), x24, x25, x25, x0, x28, x18, x25, x31, x18, x25, x1, x35, x36, x37, x38, x39, x42, x18, x42, x43, x44, x47, x18, x47, x48, x49] ++ [x31, x51, x51, (D_1 0), (D_1 1), x55, x55, (D_2 0), x58, undef, undef, undef, undef, undef, undef, undef, undef, undef, undef, undef, undef, undef, undef, undef, undef, undef, undef, undef, undef, undef]).toArray, []⟩ ∧ At w0 w h_12 ∧ K x58) H (fun hb_4 H => ?_) (fun hb_4 H => ?_) ?_
        · refine ls_move (x := x44) (by rw [hb_4]; kernel_rfl) (by kernel_rfl) ?_
          refine ls_pick_t (x := x44) (by kernel_rfl) (by rw [hb_4]; kernel_rfl) (by kernel_rfl) ?_
          refine ls_nil ?_
          refine then_normal ?_
          exact ⟨(fun i => ([x44]).getD i undef), x44, by kernel_rfl, HA_13, H⟩
        · refine ls_skip (d := some 57) (by kernel_rfl) (by rw [hb_4]; kernel_rfl) ?_
          refine ls_pick_f (y := (.bool false)) (by kernel_rfl) (by rw [hb_4]; kernel_rfl) (by kernel_rfl) ?_
          refine ls_nil ?_
          refine then_normal ?_
          exact ⟨(fun i => ([undef]).getD i undef), (.bool false), by kernel_rfl, HA_13, H⟩
        · rintro _ w_14 ⟨D_2, x58, rfl, HA_14, H⟩
          refine ls_move (x := x58) (by kernel_rfl) (by kernel_rfl) ?_
          refine ls_and [(), (), (), (), ()] (fun K a w => ∃ (D_3 : Nat → Value) (x64 : Value), a = ⟨([x0, x1, x2, undef, undef, undef, (.bool false), x18, x25, x31, x39, x11, x44, x13, x49, x2, x16, x17, x18, x18, x20, x20, (D 0), (D 1), x24, x25, x25, x0, x28, x18, x25, x31, x18, x25, x1, x35, x36, x37, x38, x39, x42, x18, x42, x43, x44, x47, x18, x47, x48, x49] ++ [x31, x51, x51, (D_1 0), (D_1 1), x55, x55, (D_2 0), x58, x58, (D_3 0), (D_3 1), (D_3 2), (D_3 3), x64, undef, undef, undef, undef, undef, undef, undef, undef, undef, undef, undef, undef, undef, undef, undef]).toArray, []⟩ ∧ At w0 w h_12 ∧ K x64) H (fun hb_3 H => ?_) (fun hb_3 H => ?_) ?_
          · refine ls_p (d := some 60) (by kernel_rfl) (by rw [hb_3]; kernel_rfl) (p_off Try.underlying39 rfl (fun w => ⟨_, Try.sizeOf37 w⟩) rfl (by kernel_rfl) H) (fun x60 H => ?_)
            refine ls_y (d := some 61) (by kernel_rfl) (by rw [hb_3]; kernel_rfl) HA_14 (y_ld Try.isAgg37 (by kernel_rfl) H) (fun x61 H => ?_)
            refine ls_p (d := some 62) (by kernel_rfl) (by rw [hb_3]; kernel_rfl) (p_len Try.underlying37 (by kernel_rfl) H) (fun x62 H => ?_)
            refine ls_p (d := some 63) (by kernel_rfl) (by rw [hb_3]; kernel_rfl) (p_sEq (by kernel_rfl) (by kernel_rfl) H) (fun x63 H => ?_)
            refine ls_pick_t (x := x63) (by kernel_rfl) (by rw [hb_3]; kernel_rfl) (by kernel_rfl) ?_
            refine ls_nil ?_
            refine then_normal ?_
            exact ⟨(fun i => ([x60, x61, x62, x63]).getD i undef), x63, by kernel_rfl, HA_14, H⟩
          · refine ls_skip (d := some 60) (by kernel_rfl) (by rw [hb_3]; kernel_rfl) ?_
            refine ls_skip (d := some 61) (by kernel_rfl) (by rw [hb_3]; kernel_rfl) ?_
            refine ls_skip (d := some 62) (by kernel_rfl) (by rw [hb_3]; kernel_rfl) ?_
            refine ls_skip (d := some 63) (by kernel_rfl) (by rw [hb_3]; kernel_rfl) ?_
            refine ls_pick_f (y := (.bool false)) (by kernel_rfl) (by rw [hb_3]; kernel_rfl) (by kernel_rfl) ?_
            refine ls_nil ?_
            refine then_normal ?_
            exact ⟨(fun i => ([undef, undef, undef, undef]).getD i undef), (.bool false), by kernel_rfl, HA_14, H⟩
          · rintro _ w_15 ⟨D_3, x64, rfl, HA_15, H⟩
            refine ls_move (x := x64) (by kernel_rfl) (by kernel_rfl) ?_
            refine ls_and [(), (), (), (), (), (), ()] (fun K a w => ∃ (D_4 : Nat → Value) (x72 : Value), a = ⟨([x0, x1, x2, undef, undef, undef, (.bool false), x18, x25, x31, x39, x11, x44, x13, x49, x2, x16, x17, x18, x18, x20, x20, (D 0), (D 1), x24, x25, x25, x0, x28, x18, x25, x31, x18, x25, x1, x35, x36, x37, x38, x39, x42, x18, x42, x43, x44, x47, x18, x47, x48, x49] ++ [x31, x51, x51, (D_1 0), (D_1 1), x55, x55, (D_2 0), x58, x58, (D_3 0), (D_3 1), (D_3 2), (D_3 3), x64, x64, (D_4 0), (D_4 1), (D_4 2), (D_4 3), (D_4 4), (D_4 5), x72, undef, undef, undef, undef, undef, undef, undef]).toArray, []⟩ ∧ At w0 w h_12 ∧ K x72) H (fun hb_2 H => ?_) (fun hb_2 H => ?_) ?_
            · refine ls_p (d := some 66) (by kernel_rfl) (by rw [hb_2]; kernel_rfl) (p_off Try.underlying39 rfl (fun w => ⟨_, Try.sizeOf37 w⟩) rfl (by kernel_rfl) H) (fun x66 H => ?_)
              refine ls_y (d := some 67) (by kernel_rfl) (by rw [hb_2]; kernel_rfl) HA_15 (y_ld Try.isAgg37 (by kernel_rfl) H) (fun x67 H => ?_)
              refine ls_p (d := some 68) (by kernel_rfl) (by rw [hb_2]; kernel_rfl) (p_ixs Try.underlying37 Try.sizeOf5 (by kernel_rfl) (by kernel_rfl) H) (fun x68 H => ?_)
              refine ls_y (d := some 69) (by kernel_rfl) (by rw [hb_2]; kernel_rfl) HA_15 (y_ld Try.isAgg5 (by kernel_rfl) H) (fun x69 H => ?_)
              refine ls_move (x := x0) (by rw [hb_2]; kernel_rfl) (by kernel_rfl) ?_
              refine ls_fr (b := ⟨([x0, x1, x2, undef, undef, undef, (.bool false), x18, x25, x31, x39, x11, x44, x13, x49, x2, x16, x17, x18, x18, x20, x20, (D 0), (D 1), x24, x25, x25, x0, x28, x18, x25, x31, x18, x25, x1, x35, x36, x37, x38, x39, x42, x18, x42, x43, x44, x47, x18, x47, x48, x49] ++ [x31, x51, x51, (D_1 0), (D_1 1), x55, x55, (D_2 0), x58, x58, (D_3 0), (D_3 1), (D_3 2), (D_3 3), x64, x64, x66, x67, x68, x69, x0, undef, undef, undef, undef, undef, undef, undef, undef, undef]).toArray, []⟩) (by kernel_rfl) ?_
              refine ls_p (d := some 71) (by kernel_rfl) (by rw [hb_2]; kernel_rfl) (p_sEq (by kernel_rfl) (by kernel_rfl) H) (fun x71 H => ?_)
              refine ls_pick_t (x := x71) (by kernel_rfl) (by rw [hb_2]; kernel_rfl) (by kernel_rfl) ?_
              refine ls_nil ?_
              refine then_normal ?_
              exact ⟨(fun i => ([x66, x67, x68, x69, x0, x71]).getD i undef), x71, by kernel_rfl, HA_15, H⟩
            · refine ls_skip (d := some 66) (by kernel_rfl) (by rw [hb_2]; kernel_rfl) ?_
              refine ls_skip (d := some 67) (by kernel_rfl) (by rw [hb_2]; kernel_rfl) ?_
              refine ls_skip (d := some 68) (by kernel_rfl) (by rw [hb_2]; kernel_rfl) ?_
              refine ls_skip (d := some 69) (by kernel_rfl) (by rw [hb_2]; kernel_rfl) ?_
              refine ls_skip (d := some 70) (by kernel_rfl) (by rw [hb_2]; kernel_rfl) ?_
              refine ls_fr (b := ⟨([x0, x1, x2, undef, undef, undef, (.bool false), x18, x25, x31, x39, x11, x44, x13, x49, x2, x16, x17, x18, x18, x20, x20, (D 0), (D 1), x24, x25, x25, x0, x28, x18, x25, x31, x18, x25, x1, x35, x36, x37, x38, x39, x42, x18, x42, x43, x44, x47, x18, x47, x48, x49] ++ [x31, x51, x51, (D_1 0), (D_1 1), x55, x55, (D_2 0), x58, x58, (D_3 0), (D_3 1), (D_3 2), (D_3 3), x64, x64, undef, undef, undef, undef, undef, undef, undef, undef, undef, undef, undef, undef, undef, undef]).toArray, []⟩) (by kernel_rfl) ?_
              refine ls_skip (d := some 71) (by kernel_rfl) (by rw [hb_2]; kernel_rfl) ?_
              refine ls_pick_f (y := (.bool false)) (by kernel_rfl) (by rw [hb_2]; kernel_rfl) (by kernel_rfl) ?_
              refine ls_nil ?_
              refine then_normal ?_
              exact ⟨(fun i => ([undef, undef, undef, undef, undef, undef]).getD i undef), (.bool false), by kernel_rfl, HA_15, H⟩
            · rintro _ w_16 ⟨D_4, x72, rfl, HA_16, H⟩
              refine ls_move (x := x72) (by kernel_rfl) (by kernel_rfl) ?_
              refine ls_and [(), (), ()] (fun K a w => ∃ (D_5 : Nat → Value) (x76 : Value), a = ⟨([x0, x1, x2, undef, undef, undef, (.bool false), x18, x25, x31, x39, x11, x44, x13, x49, x2, x16, x17, x18, x18, x20, x20, (D 0), (D 1), x24, x25, x25, x0, x28, x18, x25, x31, x18, x25, x1, x35, x36, x37, x38, x39, x42, x18, x42, x43, x44, x47, x18, x47, x48, x49] ++ [x31, x51, x51, (D_1 0), (D_1 1), x55, x55, (D_2 0), x58, x58, (D_3 0), (D_3 1), (D_3 2), (D_3 3), x64, x64, (D_4 0), (D_4 1), (D_4 2), (D_4 3), (D_4 4), (D_4 5), x72, x72, (D_5 0), (D_5 1), x76, undef, undef, undef]).toArray, []⟩ ∧ At w0 w h_12 ∧ K x76) H (fun hb_1 H => ?_) (fun hb_1 H => ?_) ?_
              · refine ls_move (x := x49) (by rw [hb_1]; kernel_rfl) (by kernel_rfl) ?_
                refine ls_p (d := some 75) (by kernel_rfl) (by rw [hb_1]; kernel_rfl) (p_not (by kernel_rfl) H) (fun x75 H => ?_)
                refine ls_pick_t (x := x75) (by kernel_rfl) (by rw [hb_1]; kernel_rfl) (by kernel_rfl) ?_
                refine ls_nil ?_
                refine then_normal ?_
                exact ⟨(fun i => ([x49, x75]).getD i undef), x75, by kernel_rfl, HA_16, H⟩
              · refine ls_skip (d := some 74) (by kernel_rfl) (by rw [hb_1]; kernel_rfl) ?_
                refine ls_skip (d := some 75) (by kernel_rfl) (by rw [hb_1]; kernel_rfl) ?_
                refine ls_pick_f (y := (.bool false)) (by kernel_rfl) (by rw [hb_1]; kernel_rfl) (by kernel_rfl) ?_
                refine ls_nil ?_
                refine then_normal ?_
                exact ⟨(fun i => ([undef, undef]).getD i undef), (.bool false), by kernel_rfl, HA_16, H⟩
              · rintro _ w_17 ⟨D_5, x76, rfl, HA_17, H⟩
                refine ls_move (x := x76) (by kernel_rfl) (by kernel_rfl) ?_
                refine ls_andh [(), ()] (fun K a w => ∃ (D_6 : Nat → Value) (x79 : Value) (h_13 : Heap), a = ⟨([x0, x1, x2, undef, undef, undef, (.bool false), x18, x25, x31, x39, x11, x44, x13, x49, x2, x16, x17, x18, x18, x20, x20, (D 0), (D 1), x24, x25, x25, x0, x28, x18, x25, x31, x18, x25, x1, x35, x36, x37, x38, x39, x42, x18, x42, x43, x44, x47, x18, x47, x48, x49] ++ [x31, x51, x51, (D_1 0), (D_1 1), x55, x55, (D_2 0), x58, x58, (D_3 0), (D_3 1), (D_3 2), (D_3 3), x64, x64, (D_4 0), (D_4 1), (D_4 2), (D_4 3), (D_4 4), (D_4 5), x72, x72, (D_5 0), (D_5 1), x76, x76, (D_6 0), x79]).toArray, []⟩ ∧ At w0 w h_13 ∧ K x79 h_13) H (fun hb H => ?_) (fun hb H => ?_) ?_
                · refine ls_d (d := some 78) (by kernel_rfl) (by rw [hb]; kernel_rfl) HA_17 (d_call (by kernel_rfl) (by kernel_rfl) H) (fun x78 h_14 w_19 H HA_19 => ?_)
                  refine ls_pick_t (x := x78) (by kernel_rfl) (by rw [hb]; kernel_rfl) (by kernel_rfl) ?_
                  refine ls_nil ?_
                  refine then_normal ?_
                  exact ⟨(fun i => ([x78]).getD i undef), x78, h_14, by kernel_rfl, HA_19, H⟩
                · refine ls_skip (d := some 78) (by kernel_rfl) (by rw [hb]; kernel_rfl) ?_
                  refine ls_pick_f (y := (.bool false)) (by kernel_rfl) (by rw [hb]; kernel_rfl) (by kernel_rfl) ?_
                  refine ls_nil ?_
                  refine then_normal ?_
                  exact ⟨(fun i => ([undef]).getD i undef), (.bool false), h_12, by kernel_rfl, HA_17, H⟩
                · rintro _ w_18 ⟨D_6, x79, h_13, rfl, HA_18, H⟩
                  refine ls_assign (x := x79) (by kernel_rfl) (by kernel_rfl) ?_
                  refine ls_nil ?_
                  refine then_normal ?_
                  refine fr_eq (b := ⟨([x0, x1, x2, undef, undef, undef, x79, x18, x25, x31, x39, x11, x44, x13, x49, x2, x16, x17, x18, x18, x20, x20, (D 0), (D 1), x24, x25, x25, x0, x28, x18, x25, x31, x18, x25, x1, x35, x36, x37, x38, x39, x42, x18, x42, x43, x44, x47, x18, x47, x48, x49] ++ [x31, x51, x51, (D_1 0), (D_1 1), x55, x55, (D_2 0), x58, x58, (D_3 0), (D_3 1), (D_3 2), (D_3 3), x64, x64, (D_4 0), (D_4 1), (D_4 2), (D_4 3), (D_4 4), (D_4 5), x72, x72, (D_5 0), (D_5 1), x76, x76, (D_6 0), x79]).toArray, []⟩) (by kernel_rfl) ?_
                  refine wp_ret ?_
                  exact end1 (Try.results9) (by kernel_rfl) (by kernel_rfl) HA_18 H _ (.inr rfl)

end Go.Proofs.Ytpgpbhbpamgboaa
