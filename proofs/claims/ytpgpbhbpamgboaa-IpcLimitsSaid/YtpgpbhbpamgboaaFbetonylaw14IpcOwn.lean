/- The shallow reading of one function, and that the function does it. Written by a program. -/
import Derived.Test.YtpgpbhbpamgboaaFnC
set_option linter.unusedVariables false
namespace Go.Proofs.Ytpgpbhbpamgboaa
open Go Go.HW

def betonylaw14_IpcOwn_l1 (R : Value → Heap → Prop) (x0 x1 x22 x6 : Value) (next : Value → Heap → Prop) (x8 : Value) (h_8 : Heap) : Prop :=
  sOff x6 1 fun x49 =>
  sLd h_8 x49 fun x50 =>
  sLen x50 fun x51 =>
  sLt x8 x51 fun x52 =>
  sIf x52 (sOff x6 1 fun x55 =>
  sLd h_8 x55 fun x56 =>
  sOff x6 1 fun x58 =>
  sLd h_8 x58 fun x59 =>
  sIxS x59 x8 1 fun x61 =>
  sLd h_8 x61 fun x62 =>
  sAdd .u8 x62 (.int .u8 1) fun x63 =>
  sIxS x56 x8 1 fun x64 =>
  sSt h_8 x64 x63 fun h_9 => 
  sAdd .i64 x8 (.int .i64 1) fun x54 =>
  next x54 h_9) (ipc_Ring_Take_c x22 h_8 fun x67 h_10 => 
  sTup x67 0 fun x68 =>
  sTup x67 1 fun x69 =>
  sNew h_10 #[.int .i64 0, .slice none 0 0] 39 fun x9 h_11 => 
  sStN h_11 x9 x68 2 fun h_12 => 
  ipc_Ring_Take_c x22 h_12 fun x72 h_13 => 
  sTup x72 0 fun x73 =>
  sTup x72 1 fun x74 =>
  sNew h_13 #[.int .i64 0, .slice none 0 0] 39 fun x11 h_14 => 
  sStN h_14 x11 x73 2 fun h_15 => 
  sAndH x74 h_15 (fun k_2 =>
  sLdN h_15 x9 2 fun x77 =>
  sBuild #[.int .i64 0, .slice none 0 0] [(0, 1, (.int .i64 2)), (1, 1, x1)] fun x79 =>
  betonyref14_Same_c x77 x79 h_15 fun x80 h_21 => 
  k_2 x80 h_21) fun x81 h_16 =>
  sAndH x81 h_16 (fun k_1 =>
  sLdN h_16 x11 2 fun x83 =>
  sBuild #[.int .i64 0, .slice none 0 0] [(0, 1, (.int .i64 1)), (1, 1, x0)] fun x85 =>
  betonyref14_Same_c x83 x85 h_16 fun x86 h_20 => 
  k_1 x86 h_20) fun x87 h_17 =>
  sAndH x87 h_17 (fun k =>
  betonylaw14_awake_c  h_17 fun x89 h_19 => 
  k x89 h_19) fun x90 h_18 =>
  R x90 h_18)
def betonylaw14_IpcOwn_S (x0 x1 : Value) (h : Heap) (R : Value → Heap → Prop) : Prop :=
  sLen x0 fun x14 =>
  sGt x14 (.int .i64 100) fun x15 =>
  sOr x15 (fun k_6 =>
  sLen x1 fun x18 =>
  sGt x18 (.int .i64 100) fun x19 =>
  k_6 x19) fun x20 =>
  sIf x20 (betonylaw14_awake_c  h fun x21 h => 
  R x21 h) (ipc_New_c (.int .i64 3) h fun x22 h_1 => 
  sEqlNil x22 fun x24 =>
  sOrH x24 h_1 (fun k_5 =>
  ipc_Ring_Send_c x22 (.int .i64 1) x0 h_1 fun x28 h_24 => 
  sNe x28 (.int .i64 0) fun x29 =>
  k_5 x29 h_24) fun x30 h_2 =>
  sOrH x30 h_2 (fun k_4 =>
  ipc_Ring_Send_c x22 (.int .i64 2) x1 h_2 fun x34 h_23 => 
  sNe x34 (.int .i64 0) fun x35 =>
  k_4 x35 h_23) fun x36 h_3 =>
  sOrH x36 h_3 (fun k_3 =>
  ipc_Ring_Send_c x22 (.int .i64 1) x0 h_3 fun x40 h_22 => 
  sNe x40 (.int .i64 0) fun x41 =>
  k_3 x41 h_22) fun x42 h_4 =>
  sIf x42 (R (.bool false) h_4) (ipc_Ring_Take_c x22 h_4 fun x45 h_5 => 
  sTup x45 0 fun x46 =>
  sTup x45 1 fun x47 =>
  sNew h_5 #[.int .i64 0, .slice none 0 0] 39 fun x6 h_6 => 
  sStN h_6 x6 x46 2 fun h_7 => 
  sLoop (S := Value) (fun nxt s h => betonylaw14_IpcOwn_l1 R x0 x1 x22 x6 (fun x8' h => nxt x8' h) s h) (.int .i64 0) h_7))
set_option maxRecDepth 100000 in
theorem betonylaw14_IpcOwn_runs {x0 x1 : Value} {h : Heap} {R : Value → Heap → Prop} (H : betonylaw14_IpcOwn_S x0 x1 h R) : betonylaw14_IpcOwn_c x0 x1 h R := by
  unfold betonylaw14_IpcOwn_S at H
  refine runs_of (b := ⟨([x0, x1, undef, undef, undef, undef, undef, undef, undef, undef, undef, undef, undef, undef, undef, undef, undef, undef, undef, undef, undef, undef, undef, undef, undef, undef, undef, undef, undef, undef, undef, undef, undef, undef, undef, undef, undef, undef, undef, undef, undef, undef, undef, undef, undef, undef, undef, undef, undef, undef] ++ [undef, undef, undef, undef, undef, undef, undef, undef, undef, undef, undef, undef, undef, undef, undef, undef, undef, undef, undef, undef, undef, undef, undef, undef, undef, undef, undef, undef, undef, undef, undef, undef, undef, undef, undef, undef, undef, undef, undef, undef, undef]).toArray, []⟩) Try.call8 Try.func8 rfl (by kernel_rfl) (fun w0 HA => ?_)
  refine wp_seq ?_
  refine lwp_list ?_
  refine ls_assign (x := (.bool false)) (by kernel_rfl) (by kernel_rfl) ?_
  refine ls_nil ?_
  refine then_normal ?_
  refine fr_eq (b := ⟨([x0, x1, undef, undef, (.bool false), undef, undef, undef, undef, undef, undef, undef, undef, undef, undef, undef, undef, undef, undef, undef, undef, undef, undef, undef, undef, undef, undef, undef, undef, undef, undef, undef, undef, undef, undef, undef, undef, undef, undef, undef, undef, undef, undef, undef, undef, undef, undef, undef, undef, undef] ++ [undef, undef, undef, undef, undef, undef, undef, undef, undef, undef, undef, undef, undef, undef, undef, undef, undef, undef, undef, undef, undef, undef, undef, undef, undef, undef, undef, undef, undef, undef, undef, undef, undef, undef, undef, undef, undef, undef, undef, undef, undef]).toArray, []⟩) (by kernel_rfl) ?_
  refine wp_seq ?_
  refine wp_seq ?_
  refine lwp_list ?_
  refine ls_move (x := x0) (by kernel_rfl) (by kernel_rfl) ?_
  refine ls_p (d := some 14) (by kernel_rfl) (by kernel_rfl) (p_len Try.underlying37 (by kernel_rfl) H) (fun x14 H => ?_)
  refine ls_p (d := some 15) (by kernel_rfl) (by kernel_rfl) (p_sGt (by kernel_rfl) (by kernel_rfl) H) (fun x15 H => ?_)
  refine ls_move (x := x15) (by kernel_rfl) (by kernel_rfl) ?_
  refine ls_or [(), (), (), ()] (fun K a w => ∃ (D : Nat → Value) (x20 : Value), a = ⟨([x0, x1, undef, undef, (.bool false), undef, undef, undef, undef, undef, undef, undef, undef, x0, x14, x15, x15, (D 0), (D 1), (D 2), x20, undef, undef, undef, undef, undef, undef, undef, undef, undef, undef, undef, undef, undef, undef, undef, undef, undef, undef, undef, undef, undef, undef, undef, undef, undef, undef, undef, undef, undef] ++ [undef, undef, undef, undef, undef, undef, undef, undef, undef, undef, undef, undef, undef, undef, undef, undef, undef, undef, undef, undef, undef, undef, undef, undef, undef, undef, undef, undef, undef, undef, undef, undef, undef, undef, undef, undef, undef, undef, undef, undef, undef]).toArray, []⟩ ∧ At w0 w h ∧ K x20) H (fun hb_6 H => ?_) (fun hb_6 H => ?_) ?_
  · refine ls_move (x := x1) (by rw [hb_6]; kernel_rfl) (by kernel_rfl) ?_
    refine ls_p (d := some 18) (by kernel_rfl) (by rw [hb_6]; kernel_rfl) (p_len Try.underlying37 (by kernel_rfl) H) (fun x18 H => ?_)
    refine ls_fr (b := ⟨([x0, x1, undef, undef, (.bool false), undef, undef, undef, undef, undef, undef, undef, undef, x0, x14, x15, x15, x1, x18, undef, undef, undef, undef, undef, undef, undef, undef, undef, undef, undef, undef, undef, undef, undef, undef, undef, undef, undef, undef, undef, undef, undef, undef, undef, undef, undef, undef, undef, undef, undef] ++ [undef, undef, undef, undef, undef, undef, undef, undef, undef, undef, undef, undef, undef, undef, undef, undef, undef, undef, undef, undef, undef, undef, undef, undef, undef, undef, undef, undef, undef, undef, undef, undef, undef, undef, undef, undef, undef, undef, undef, undef, undef]).toArray, []⟩) (by kernel_rfl) ?_
    refine ls_p (d := some 19) (by kernel_rfl) (by rw [hb_6]; kernel_rfl) (p_sGt (by kernel_rfl) (by kernel_rfl) H) (fun x19 H => ?_)
    refine ls_pick_f (y := x19) (by kernel_rfl) (by rw [hb_6]; kernel_rfl) (by kernel_rfl) ?_
    refine ls_nil ?_
    refine then_normal ?_
    exact ⟨(fun i => ([x1, x18, x19]).getD i undef), x19, by kernel_rfl, HA, H⟩
  · refine ls_skip (d := some 17) (by kernel_rfl) (by rw [hb_6]; kernel_rfl) ?_
    refine ls_skip (d := some 18) (by kernel_rfl) (by rw [hb_6]; kernel_rfl) ?_
    refine ls_fr (b := ⟨([x0, x1, undef, undef, (.bool false), undef, undef, undef, undef, undef, undef, undef, undef, x0, x14, x15, x15, undef, undef, undef, undef, undef, undef, undef, undef, undef, undef, undef, undef, undef, undef, undef, undef, undef, undef, undef, undef, undef, undef, undef, undef, undef, undef, undef, undef, undef, undef, undef, undef, undef] ++ [undef, undef, undef, undef, undef, undef, undef, undef, undef, undef, undef, undef, undef, undef, undef, undef, undef, undef, undef, undef, undef, undef, undef, undef, undef, undef, undef, undef, undef, undef, undef, undef, undef, undef, undef, undef, undef, undef, undef, undef, undef]).toArray, []⟩) (by kernel_rfl) ?_
    refine ls_skip (d := some 19) (by kernel_rfl) (by rw [hb_6]; kernel_rfl) ?_
    refine ls_pick_t (x := (.bool true)) (by kernel_rfl) (by rw [hb_6]; kernel_rfl) (by kernel_rfl) ?_
    refine ls_nil ?_
    refine then_normal ?_
    exact ⟨(fun i => ([undef, undef, undef]).getD i undef), (.bool true), by kernel_rfl, HA, H⟩
  · rintro _ w ⟨D, x20, rfl, HA, H⟩
    refine ls_nil ?_
    refine then_normal ?_
    refine fr_eq (b := ⟨([x0, x1, undef, undef, (.bool false), undef, undef, undef, undef, undef, undef, undef, undef, x0, x14, x15, x15, (D 0), (D 1), (D 2), x20, undef, undef, undef, undef, undef, undef, undef, undef, undef, undef, undef, undef, undef, undef, undef, undef, undef, undef, undef, undef, undef, undef, undef, undef, undef, undef, undef, undef, undef] ++ [undef, undef, undef, undef, undef, undef, undef, undef, undef, undef, undef, undef, undef, undef, undef, undef, undef, undef, undef, undef, undef, undef, undef, undef, undef, undef, undef, undef, undef, undef, undef, undef, undef, undef, undef, undef, undef, undef, undef, undef, undef]).toArray, []⟩) (by kernel_rfl) ?_
    refine wp_if rfl H (fun H => ?_) (fun H => ?_)
    · refine wp_seq ?_
      refine lwp_list ?_
      refine ls_d (d := some 21) (by kernel_rfl) (by kernel_rfl) HA (d_call (by kernel_rfl) (by kernel_rfl) H) (fun x21 h w_1 H HA_1 => ?_)
      refine ls_assign (x := x21) (by kernel_rfl) (by kernel_rfl) ?_
      refine ls_nil ?_
      refine then_normal ?_
      refine fr_eq (b := ⟨([x0, x1, undef, undef, x21, undef, undef, undef, undef, undef, undef, undef, undef, x0, x14, x15, x15, (D 0), (D 1), (D 2), x20, x21, undef, undef, undef, undef, undef, undef, undef, undef, undef, undef, undef, undef, undef, undef, undef, undef, undef, undef, undef, undef, undef, undef, undef, undef, undef, undef, undef, undef] ++ [undef, undef, undef, undef, undef, undef, undef, undef, undef, undef, undef, undef, undef, undef, undef, undef, undef, undef, undef, undef, undef, undef, undef, undef, undef, undef, undef, undef, undef, undef, undef, undef, undef, undef, undef, undef, undef, undef, undef, undef, undef]).toArray, []⟩) (by kernel_rfl) ?_
      refine wp_ret ?_
      refine then_ret ?_
      exact end1 (Try.results8) (by kernel_rfl) (by kernel_rfl) HA_1 H _ (.inr rfl)
    · refine wp_skip ?_
      refine then_normal ?_
      refine fr_eq (b := ⟨([x0, x1, undef, undef, (.bool false), undef, undef, undef, undef, undef, undef, undef, undef, x0, x14, x15, x15, (D 0), (D 1), (D 2), x20, undef, undef, undef, undef, undef, undef, undef, undef, undef, undef, undef, undef, undef, undef, undef, undef, undef, undef, undef, undef, undef, undef, undef, undef, undef, undef, undef, undef, undef] ++ [undef, undef, undef, undef, undef, undef, undef, undef, undef, undef, undef, undef, undef, undef, undef, undef, undef, undef, undef, undef, undef, undef, undef, undef, undef, undef, undef, undef, undef, undef, undef, undef, undef, undef, undef, undef, undef, undef, undef, undef, undef]).toArray, []⟩) (by kernel_rfl) ?_
      refine wp_seq ?_
      refine lwp_list ?_
      refine ls_d (d := some 22) (by kernel_rfl) (by kernel_rfl) HA (d_call (by kernel_rfl) (by kernel_rfl) H) (fun x22 h_1 w_2 H HA_2 => ?_)
      refine ls_assign (x := x22) (by kernel_rfl) (by kernel_rfl) ?_
      refine ls_nil ?_
      refine then_normal ?_
      refine fr_eq (b := ⟨([x0, x1, undef, undef, (.bool false), x22, undef, undef, undef, undef, undef, undef, undef, x0, x14, x15, x15, (D 0), (D 1), (D 2), x20, undef, x22, undef, undef, undef, undef, undef, undef, undef, undef, undef, undef, undef, undef, undef, undef, undef, undef, undef, undef, undef, undef, undef, undef, undef, undef, undef, undef, undef] ++ [undef, undef, undef, undef, undef, undef, undef, undef, undef, undef, undef, undef, undef, undef, undef, undef, undef, undef, undef, undef, undef, undef, undef, undef, undef, undef, undef, undef, undef, undef, undef, undef, undef, undef, undef, undef, undef, undef, undef, undef, undef]).toArray, []⟩) (by kernel_rfl) ?_
      refine wp_seq ?_
      refine wp_seq ?_
      refine lwp_list ?_
      refine ls_move (x := x22) (by kernel_rfl) (by kernel_rfl) ?_
      refine ls_p (d := some 24) (by kernel_rfl) (by kernel_rfl) (p_eqlNil Try.underlying35 (by kernel_rfl) (by kernel_rfl) H) (fun x24 H => ?_)
      refine ls_move (x := x24) (by kernel_rfl) (by kernel_rfl) ?_
      refine ls_orh [(), (), (), (), ()] (fun K a w => ∃ (D_1 : Nat → Value) (x30 : Value) (h_2 : Heap), a = ⟨([x0, x1, undef, undef, (.bool false), x22, undef, undef, undef, undef, undef, undef, undef, x0, x14, x15, x15, (D 0), (D 1), (D 2), x20, undef, x22, x22, x24, x24, (D_1 0), (D_1 1), (D_1 2), (D_1 3), x30, undef, undef, undef, undef, undef, undef, undef, undef, undef, undef, undef, undef, undef, undef, undef, undef, undef, undef, undef] ++ [undef, undef, undef, undef, undef, undef, undef, undef, undef, undef, undef, undef, undef, undef, undef, undef, undef, undef, undef, undef, undef, undef, undef, undef, undef, undef, undef, undef, undef, undef, undef, undef, undef, undef, undef, undef, undef, undef, undef, undef, undef]).toArray, []⟩ ∧ At w0 w h_2 ∧ K x30 h_2) H (fun hb_5 H => ?_) (fun hb_5 H => ?_) ?_
      · refine ls_move (x := x22) (by rw [hb_5]; kernel_rfl) (by kernel_rfl) ?_
        refine ls_move (x := x0) (by rw [hb_5]; kernel_rfl) (by kernel_rfl) ?_
        refine ls_d (d := some 28) (by kernel_rfl) (by rw [hb_5]; kernel_rfl) HA_2 (d_call (by kernel_rfl) (by kernel_rfl) H) (fun x28 h_24 w_26 H HA_26 => ?_)
        refine ls_fr (b := ⟨([x0, x1, undef, undef, (.bool false), x22, undef, undef, undef, undef, undef, undef, undef, x0, x14, x15, x15, (D 0), (D 1), (D 2), x20, undef, x22, x22, x24, x24, x22, x0, x28, undef, undef, undef, undef, undef, undef, undef, undef, undef, undef, undef, undef, undef, undef, undef, undef, undef, undef, undef, undef, undef] ++ [undef, undef, undef, undef, undef, undef, undef, undef, undef, undef, undef, undef, undef, undef, undef, undef, undef, undef, undef, undef, undef, undef, undef, undef, undef, undef, undef, undef, undef, undef, undef, undef, undef, undef, undef, undef, undef, undef, undef, undef, undef]).toArray, []⟩) (by kernel_rfl) ?_
        refine ls_p (d := some 29) (by kernel_rfl) (by rw [hb_5]; kernel_rfl) (p_sNe (by kernel_rfl) (by kernel_rfl) H) (fun x29 H => ?_)
        refine ls_pick_f (y := x29) (by kernel_rfl) (by rw [hb_5]; kernel_rfl) (by kernel_rfl) ?_
        refine ls_nil ?_
        refine then_normal ?_
        exact ⟨(fun i => ([x22, x0, x28, x29]).getD i undef), x29, h_24, by kernel_rfl, HA_26, H⟩
      · refine ls_skip (d := some 26) (by kernel_rfl) (by rw [hb_5]; kernel_rfl) ?_
        refine ls_skip (d := some 27) (by kernel_rfl) (by rw [hb_5]; kernel_rfl) ?_
        refine ls_skip (d := some 28) (by kernel_rfl) (by rw [hb_5]; kernel_rfl) ?_
        refine ls_fr (b := ⟨([x0, x1, undef, undef, (.bool false), x22, undef, undef, undef, undef, undef, undef, undef, x0, x14, x15, x15, (D 0), (D 1), (D 2), x20, undef, x22, x22, x24, x24, undef, undef, undef, undef, undef, undef, undef, undef, undef, undef, undef, undef, undef, undef, undef, undef, undef, undef, undef, undef, undef, undef, undef, undef] ++ [undef, undef, undef, undef, undef, undef, undef, undef, undef, undef, undef, undef, undef, undef, undef, undef, undef, undef, undef, undef, undef, undef, undef, undef, undef, undef, undef, undef, undef, undef, undef, undef, undef, undef, undef, undef, undef, undef, undef, undef, undef]).toArray, []⟩) (by kernel_rfl) ?_
        refine ls_skip (d := some 29) (by kernel_rfl) (by rw [hb_5]; kernel_rfl) ?_
        refine ls_pick_t (x := (.bool true)) (by kernel_rfl) (by rw [hb_5]; kernel_rfl) (by kernel_rfl) ?_
        refine ls_nil ?_
        refine then_normal ?_
        exact ⟨(fun i => ([undef, undef, undef, undef]).getD i undef), (.bool true), h_1, by kernel_rfl, HA_2, H⟩
      · rintro _ w_3 ⟨D_1, x30, h_2, rfl, HA_3, H⟩
        refine ls_move (x := x30) (by kernel_rfl) (by kernel_rfl) ?_
        refine ls_orh [(), (), (), (), ()] (fun K a w => ∃ (D_2 : Nat → Value) (x36 : Value) (h_3 : Heap), a = ⟨([x0, x1, undef, undef, (.bool false), x22, undef, undef, undef, undef, undef, undef, undef, x0, x14, x15, x15, (D 0), (D 1), (D 2), x20, undef, x22, x22, x24, x24, (D_1 0), (D_1 1), (D_1 2), (D_1 3), x30, x30, (D_2 0), (D_2 1), (D_2 2), (D_2 3), x36, undef, undef, undef, undef, undef, undef, undef, undef, undef, undef, undef, undef, undef] ++ [undef, undef, undef, undef, undef, undef, undef, undef, undef, undef, undef, undef, undef, undef, undef, undef, undef, undef, undef, undef, undef, undef, undef, undef, undef, undef, undef, undef, undef, undef, undef, undef, undef, undef, undef, undef, undef, undef, undef, undef, undef]).toArray, []⟩ ∧ At w0 w h_3 ∧ K x36 h_3) H (fun hb_4 H => ?_) (fun hb_4 H => ?_) ?_
        · refine ls_move (x := x22) (by rw [hb_4]; kernel_rfl) (by kernel_rfl) ?_
          refine ls_move (x := x1) (by rw [hb_4]; kernel_rfl) (by kernel_rfl) ?_
          refine ls_d (d := some 34) (by kernel_rfl) (by rw [hb_4]; kernel_rfl) HA_3 (d_call (by kernel_rfl) (by kernel_rfl) H) (fun x34 h_23 w_25 H HA_25 => ?_)
          refine ls_p (d := some 35) (by kernel_rfl) (by rw [hb_4]; kernel_rfl) (p_sNe (by kernel_rfl) (by kernel_rfl) H) (fun x35 H => ?_)
          refine ls_pick_f (y := x35) (by kernel_rfl) (by rw [hb_4]; kernel_rfl) (by kernel_rfl) ?_
          refine ls_nil ?_
          refine then_normal ?_
          exact ⟨(fun i => ([x22, x1, x34, x35]).getD i undef), x35, h_23, by kernel_rfl, HA_25, H⟩
        · refine ls_skip (d := some 32) (by kernel_rfl) (by rw [hb_4]; kernel_rfl) ?_
          refine ls_skip (d := some 33) (by kernel_rfl) (by rw [hb_4]; kernel_rfl) ?_
          refine ls_skip (d := some 34) (by kernel_rfl) (by rw [hb_4]; kernel_rfl) ?_
          refine ls_skip (d := some 35) (by kernel_rfl) (by rw [hb_4]; kernel_rfl) ?_
          refine ls_pick_t (x := (.bool true)) (by kernel_rfl) (by rw [hb_4]; kernel_rfl) (by kernel_rfl) ?_
          refine ls_nil ?_
          refine then_normal ?_
          exact ⟨(fun i => ([undef, undef, undef, undef]).getD i undef), (.bool true), h_2, by kernel_rfl, HA_3, H⟩
        · rintro _ w_4 ⟨D_2, x36, h_3, rfl, HA_4, H⟩
          refine ls_move (x := x36) (by kernel_rfl) (by kernel_rfl) ?_
          refine ls_orh [(), (), (), (), ()] (fun K a w => ∃ (D_3 : Nat → Value) (x42 : Value) (h_4 : Heap), a = ⟨([x0, x1, undef, undef, (.bool false), x22, undef, undef, undef, undef, undef, undef, undef, x0, x14, x15, x15, (D 0), (D 1), (D 2), x20, undef, x22, x22, x24, x24, (D_1 0), (D_1 1), (D_1 2), (D_1 3), x30, x30, (D_2 0), (D_2 1), (D_2 2), (D_2 3), x36, x36, (D_3 0), (D_3 1), (D_3 2), (D_3 3), x42, undef, undef, undef, undef, undef, undef, undef] ++ [undef, undef, undef, undef, undef, undef, undef, undef, undef, undef, undef, undef, undef, undef, undef, undef, undef, undef, undef, undef, undef, undef, undef, undef, undef, undef, undef, undef, undef, undef, undef, undef, undef, undef, undef, undef, undef, undef, undef, undef, undef]).toArray, []⟩ ∧ At w0 w h_4 ∧ K x42 h_4) H (fun hb_3 H => ?_) (fun hb_3 H => ?_) ?_
          · refine ls_move (x := x22) (by rw [hb_3]; kernel_rfl) (by kernel_rfl) ?_
            refine ls_move (x := x0) (by rw [hb_3]; kernel_rfl) (by kernel_rfl) ?_
            refine ls_d (d := some 40) (by kernel_rfl) (by rw [hb_3]; kernel_rfl) HA_4 (d_call (by kernel_rfl) (by kernel_rfl) H) (fun x40 h_22 w_24 H HA_24 => ?_)
            refine ls_p (d := some 41) (by kernel_rfl) (by rw [hb_3]; kernel_rfl) (p_sNe (by kernel_rfl) (by kernel_rfl) H) (fun x41 H => ?_)
            refine ls_pick_f (y := x41) (by kernel_rfl) (by rw [hb_3]; kernel_rfl) (by kernel_rfl) ?_
            refine ls_nil ?_
            refine then_normal ?_
            exact ⟨(fun i => ([x22, x0, x40, x41]).getD i undef), x41, h_22, by kernel_rfl, HA_24, H⟩
          · refine ls_skip (d := some 38) (by kernel_rfl) (by rw [hb_3]; kernel_rfl) ?_
            refine ls_skip (d := some 39) (by kernel_rfl) (by rw [hb_3]; kernel_rfl) ?_
            refine ls_skip (d := some 40) (by kernel_rfl) (by rw [hb_3]; kernel_rfl) ?_
            refine ls_skip (d := some 41) (by kernel_rfl) (by rw [hb_3]; kernel_rfl) ?_
            refine ls_pick_t (x := (.bool true)) (by kernel_rfl) (by rw [hb_3]; kernel_rfl) (by kernel_rfl) ?_
            refine ls_nil ?_
            refine then_normal ?_
            exact ⟨(fun i => ([undef, undef, undef, undef]).getD i undef), (.bool true), h_3, by kernel_rfl, HA_4, H⟩
          · rintro _ w_5 ⟨D_3, x42, h_4, rfl, HA_5, H⟩
            refine ls_nil ?_
            refine then_normal ?_
            refine fr_eq (b := ⟨([x0, x1, undef, undef, (.bool false), x22, undef, undef, undef, undef, undef, undef, undef, x0, x14, x15, x15, (D 0), (D 1), (D 2), x20, undef, x22, x22, x24, x24, (D_1 0), (D_1 1), (D_1 2), (D_1 3), x30, x30, (D_2 0), (D_2 1), (D_2 2), (D_2 3), x36, x36, (D_3 0), (D_3 1), (D_3 2), (D_3 3), x42, undef, undef, undef, undef, undef, undef, undef] ++ [undef, undef, undef, undef, undef, undef, undef, undef, undef, undef, undef, undef, undef, undef, undef, undef, undef, undef, undef, undef, undef, undef, undef, undef, undef, undef, undef, undef, undef, undef, undef, undef, undef, undef, undef, undef, undef, undef, undef, undef, undef]).toArray, []⟩) (by kernel_rfl) ?_
            refine wp_if rfl H (fun H => ?_) (fun H => ?_)
            · refine wp_seq ?_
              refine lwp_list ?_
              refine ls_assign (x := (.bool false)) (by kernel_rfl) (by kernel_rfl) ?_
              refine ls_nil ?_
              refine then_normal ?_
              refine fr_eq (b := ⟨([x0, x1, undef, undef, (.bool false), x22, undef, undef, undef, undef, undef, undef, undef, x0, x14, x15, x15, (D 0), (D 1), (D 2), x20, undef, x22, x22, x24, x24, (D_1 0), (D_1 1), (D_1 2), (D_1 3), x30, x30, (D_2 0), (D_2 1), (D_2 2), (D_2 3), x36, x36, (D_3 0), (D_3 1), (D_3 2), (D_3 3), x42, undef, undef, undef, undef, undef, undef, undef] ++ [undef, undef, undef, undef, undef, undef, undef, undef, undef, undef, undef, undef, undef, undef, undef, undef, undef, undef, undef, undef, undef, undef, undef, undef, undef, undef, undef, undef, undef, undef, undef, undef, undef, undef, undef, undef, undef, undef, undef, undef, undef]).toArray, []⟩) (by kernel_rfl) ?_
              refine wp_ret ?_
              refine then_ret ?_
              exact end1 (Try.results8) (by kernel_rfl) (by kernel_rfl) HA_5 H _ (.inr rfl)
            · refine wp_skip ?_
              refine then_normal ?_
              refine fr_eq (b := ⟨([x0, x1, undef, undef, (.bool false), x22, undef, undef, undef, undef, undef, undef, undef, x0, x14, x15, x15, (D 0), (D 1), (D 2), x20, undef, x22, x22, x24, x24, (D_1 0), (D_1 1), (D_1 2), (D_1 3), x30, x30, (D_2 0), (D_2 1), (D_2 2), (D_2 3), x36, x36, (D_3 0), (D_3 1), (D_3 2), (D_3 3), x42, undef, undef, undef, undef, undef, undef, undef] ++ [undef, undef, undef, undef, undef, undef, undef, undef, undef, undef, undef, undef, undef, undef, undef, undef, undef, undef, undef, undef, undef, undef, undef, undef, undef, undef, undef, undef, undef, undef, undef, undef, undef, undef, undef, undef, undef, undef, undef, undef, undef]).toArray, []⟩) (by kernel_rfl) ?_
              refine wp_seq ?_
              refine lwp_list ?_
              refine ls_move (x := x22) (by kernel_rfl) (by kernel_rfl) ?_
              refine ls_d (d := some 45) (by kernel_rfl) (by kernel_rfl) HA_5 (d_call (by kernel_rfl) (by kernel_rfl) H) (fun x45 h_5 w_6 H HA_6 => ?_)
              refine ls_move (x := x45) (by kernel_rfl) (by kernel_rfl) ?_
              refine ls_p (d := some 46) (by kernel_rfl) (by kernel_rfl) (p_tup (by kernel_rfl) H) (fun x46 H => ?_)
              refine ls_p (d := some 47) (by kernel_rfl) (by kernel_rfl) (p_tup (by kernel_rfl) H) (fun x47 H => ?_)
              refine ls_d (d := some 6) (by kernel_rfl) (by kernel_rfl) HA_6 (d_alloc Try.zeroValue39 H) (fun x6 h_6 w_7 H HA_7 => ?_)
              refine ls_fr (b := ⟨([x0, x1, undef, undef, (.bool false), x22, x6, undef, undef, undef, undef, undef, undef, x0, x14, x15, x15, (D 0), (D 1), (D 2), x20, undef, x22, x22, x24, x24, (D_1 0), (D_1 1), (D_1 2), (D_1 3), x30, x30, (D_2 0), (D_2 1), (D_2 2), (D_2 3), x36, x36, (D_3 0), (D_3 1), (D_3 2), (D_3 3), x42, x45, x22, x45, x46, x47, undef, undef] ++ [undef, undef, undef, undef, undef, undef, undef, undef, undef, undef, undef, undef, undef, undef, undef, undef, undef, undef, undef, undef, undef, undef, undef, undef, undef, undef, undef, undef, undef, undef, undef, undef, undef, undef, undef, undef, undef, undef, undef, undef, undef]).toArray, []⟩) (by kernel_rfl) ?_
              refine ls_d (d := none) (by kernel_rfl) (by kernel_rfl) HA_7 (d_stn Try.sizeOf39 (by kernel_rfl) (by kernel_rfl) H) (fun _ h_7 w_8 H HA_8 => ?_)
              refine ls_assign (x := x47) (by kernel_rfl) (by kernel_rfl) ?_
              refine ls_nil ?_
              refine then_normal ?_
              refine fr_eq (b := ⟨([x0, x1, undef, undef, (.bool false), x22, x6, x47, undef, undef, undef, undef, undef, x0, x14, x15, x15, (D 0), (D 1), (D 2), x20, undef, x22, x22, x24, x24, (D_1 0), (D_1 1), (D_1 2), (D_1 3), x30, x30, (D_2 0), (D_2 1), (D_2 2), (D_2 3), x36, x36, (D_3 0), (D_3 1), (D_3 2), (D_3 3), x42, x45, x22, x45, x46, x47, undef, undef] ++ [undef, undef, undef, undef, undef, undef, undef, undef, undef, undef, undef, undef, undef, undef, undef, undef, undef, undef, undef, undef, undef, undef, undef, undef, undef, undef, undef, undef, undef, undef, undef, undef, undef, undef, undef, undef, undef, undef, undef, undef, undef]).toArray, []⟩) (by kernel_rfl) ?_
              refine wp_seq ?_
              refine wp_seq ?_
              refine lwp_list ?_
              refine ls_assign (x := (.int .i64 0)) (by kernel_rfl) (by kernel_rfl) ?_
              refine ls_nil ?_
              refine then_normal ?_
              refine fr_eq (b := ⟨([x0, x1, undef, undef, (.bool false), x22, x6, x47, (.int .i64 0), undef, undef, undef, undef, x0, x14, x15, x15, (D 0), (D 1), (D 2), x20, undef, x22, x22, x24, x24, (D_1 0), (D_1 1), (D_1 2), (D_1 3), x30, x30, (D_2 0), (D_2 1), (D_2 2), (D_2 3), x36, x36, (D_3 0), (D_3 1), (D_3 2), (D_3 3), x42, x45, x22, x45, x46, x47, undef, undef] ++ [undef, undef, undef, undef, undef, undef, undef, undef, undef, undef, undef, undef, undef, undef, undef, undef, undef, undef, undef, undef, undef, undef, undef, undef, undef, undef, undef, undef, undef, undef, undef, undef, undef, undef, undef, undef, undef, undef, undef, undef, undef]).toArray, []⟩) (by kernel_rfl) ?_
              refine wp_block ?_
              obtain ⟨I, m, H0, HB⟩ := H
              refine wp_loop (fun a w => ∃ (D_4 : Nat → Value) (x8 : Value) (h_8 : Heap), a = ⟨([x0, x1, undef, undef, (.bool false), x22, x6, x47, x8, undef, undef, undef, undef, x0, x14, x15, x15, (D 0), (D 1), (D 2), x20, undef, x22, x22, x24, x24, (D_1 0), (D_1 1), (D_1 2), (D_1 3), x30, x30, (D_2 0), (D_2 1), (D_2 2), (D_2 3), x36, x36, (D_3 0), (D_3 1), (D_3 2), (D_3 3), x42, x45, x22, x45, x46, x47, (D_4 0), (D_4 1)] ++ [(D_4 2), (D_4 3), (D_4 4), (D_4 5), (D_4 6), (D_4 7), (D_4 8), (D_4 9), (D_4 10), (D_4 11), (D_4 12), (D_4 13), (D_4 14), (D_4 15), (D_4 16), undef, undef, undef, undef, undef, undef, undef, undef, undef, undef, undef, undef, undef, undef, undef, undef, undef, undef, undef, undef, undef, undef, undef, undef, undef, undef]).toArray, []⟩ ∧ At w0 w h_8 ∧ I x8 h_8) (fun a w => m (a.tmps.getD 8 undef) w.heap) ?_ ?_
              · exact ⟨(fun i => ([undef, undef, undef, undef, undef, undef, undef, undef, undef, undef, undef, undef, undef, undef, undef, undef, undef]).getD i undef), (.int .i64 0), h_7, by kernel_rfl, HA_8, H0⟩
              · rintro _ w_9 ⟨D_4, x8, h_8, rfl, HA_9, HI⟩
                have H : betonylaw14_IpcOwn_l1 R x0 x1 x22 x6 (fun x8' h' => I x8' h' ∧ m x8' h' < m x8 h_8) x8 h_8 := HB x8 h_8 HI
                clear HB H0 HI
                unfold betonylaw14_IpcOwn_l1 at H
                refine wp_seq ?_
                refine wp_seq ?_
                refine lwp_list ?_
                refine ls_move (x := x8) (by kernel_rfl) (by kernel_rfl) ?_
                refine ls_p (d := some 49) (by kernel_rfl) (by kernel_rfl) (p_off Try.underlying39 rfl (fun w => ⟨_, Try.sizeOf37 w⟩) rfl (by kernel_rfl) H) (fun x49 H => ?_)
                refine ls_y (d := some 50) (by kernel_rfl) (by kernel_rfl) HA_9 (y_ld Try.isAgg37 (by kernel_rfl) H) (fun x50 H => ?_)
                refine ls_p (d := some 51) (by kernel_rfl) (by kernel_rfl) (p_len Try.underlying37 (by kernel_rfl) H) (fun x51 H => ?_)
                refine ls_p (d := some 52) (by kernel_rfl) (by kernel_rfl) (p_sLt (by kernel_rfl) (by kernel_rfl) H) (fun x52 H => ?_)
                refine ls_nil ?_
                refine then_normal ?_
                refine fr_eq (b := ⟨([x0, x1, undef, undef, (.bool false), x22, x6, x47, x8, undef, undef, undef, undef, x0, x14, x15, x15, (D 0), (D 1), (D 2), x20, undef, x22, x22, x24, x24, (D_1 0), (D_1 1), (D_1 2), (D_1 3), x30, x30, (D_2 0), (D_2 1), (D_2 2), (D_2 3), x36, x36, (D_3 0), (D_3 1), (D_3 2), (D_3 3), x42, x45, x22, x45, x46, x47, x8, x49] ++ [x50, x51, x52, (D_4 5), (D_4 6), (D_4 7), (D_4 8), (D_4 9), (D_4 10), (D_4 11), (D_4 12), (D_4 13), (D_4 14), (D_4 15), (D_4 16), undef, undef, undef, undef, undef, undef, undef, undef, undef, undef, undef, undef, undef, undef, undef, undef, undef, undef, undef, undef, undef, undef, undef, undef, undef, undef]).toArray, []⟩) (by kernel_rfl) ?_
                refine wp_if rfl H (fun H => ?_) (fun H => ?_)
                · refine wp_skip ?_
                  refine then_normal ?_
                  refine fr_eq (b := ⟨([x0, x1, undef, undef, (.bool false), x22, x6, x47, x8, undef, undef, undef, undef, x0, x14, x15, x15, (D 0), (D 1), (D 2), x20, undef, x22, x22, x24, x24, (D_1 0), (D_1 1), (D_1 2), (D_1 3), x30, x30, (D_2 0), (D_2 1), (D_2 2), (D_2 3), x36, x36, (D_3 0), (D_3 1), (D_3 2), (D_3 3), x42, x45, x22, x45, x46, x47, x8, x49] ++ [x50, x51, x52, (D_4 5), (D_4 6), (D_4 7), (D_4 8), (D_4 9), (D_4 10), (D_4 11), (D_4 12), (D_4 13), (D_4 14), (D_4 15), (D_4 16), undef, undef, undef, undef, undef, undef, undef, undef, undef, undef, undef, undef, undef, undef, undef, undef, undef, undef, undef, undef, undef, undef, undef, undef, undef, undef]).toArray, []⟩) (by kernel_rfl) ?_
                  refine wp_seq ?_
                  refine wp_block ?_
                  refine lwp_mx (Nat.testBit 1024) (Nat.testBit 0) (Nat.testBit 877) [0, 1, 0, 0, 8, 0, 56, 120, 248, 511, 1023] (fun h' => h' = h_8) [0, 1, 2, 3, 4, 5, 6, 7, 8, 9, 10] (by kernel_rfl) (by kernel_rfl) (by kernel_rfl) HA_9 rfl ?_
                  intro w_10 HA_10
                  refine lm_p (d := some 55) (by kernel_rfl) rfl (by kernel_rfl) (by kernel_rfl) (p_off Try.underlying39 rfl (fun w => ⟨_, Try.sizeOf37 w⟩) rfl (by kernel_rfl) H) (fun x55 H => ?_)
                  refine lm_f (d := some 56) (by kernel_rfl) rfl (by kernel_rfl) (by kernel_rfl) (by kernel_rfl) (of_eq (y_ld Try.isAgg37 (by kernel_rfl) H)) (fun x56 H => ?_)
                  refine lm_al (x := x8) (d := some 57) (by kernel_rfl) rfl (by kernel_rfl) (by kernel_rfl) (al_move (by kernel_rfl)) ?_
                  refine lm_p (d := some 58) (by kernel_rfl) rfl (by kernel_rfl) (by kernel_rfl) (p_off Try.underlying39 rfl (fun w => ⟨_, Try.sizeOf37 w⟩) rfl (by kernel_rfl) H) (fun x58 H => ?_)
                  refine lm_f (d := some 59) (by kernel_rfl) rfl (by kernel_rfl) (by kernel_rfl) (by kernel_rfl) (of_eq (y_ld Try.isAgg37 (by kernel_rfl) H)) (fun x59 H => ?_)
                  refine lm_al (x := x8) (d := some 60) (by kernel_rfl) rfl (by kernel_rfl) (by kernel_rfl) (al_move (by kernel_rfl)) ?_
                  refine lm_fr (b := ⟨([x0, x1, undef, undef, (.bool false), x22, x6, x47, x8, undef, undef, undef, undef, x0, x14, x15, x15, (D 0), (D 1), (D 2), x20, undef, x22, x22, x24, x24, (D_1 0), (D_1 1), (D_1 2), (D_1 3), x30, x30, (D_2 0), (D_2 1), (D_2 2), (D_2 3), x36, x36, (D_3 0), (D_3 1), (D_3 2), (D_3 3), x42, x45, x22, x45, x46, x47, x8, x49] ++ [x50, x51, x52, (D_4 5), (D_4 6), x55, x56, x8, x58, x59, x8, (D_4 13), (D_4 14), (D_4 15), (D_4 16), undef, undef, undef, undef, undef, undef, undef, undef, undef, undef, undef, undef, undef, undef, undef, undef, undef, undef, undef, undef, undef, undef, undef, undef, undef, undef]).toArray, []⟩) (by kernel_rfl) ?_
                  refine lm_p (d := some 61) (by kernel_rfl) rfl (by kernel_rfl) (by kernel_rfl) (p_ixs Try.underlying37 Try.sizeOf5 (by kernel_rfl) (by kernel_rfl) H) (fun x61 H => ?_)
                  refine lm_f (d := some 62) (by kernel_rfl) rfl (by kernel_rfl) (by kernel_rfl) (by kernel_rfl) (of_eq (y_ld Try.isAgg5 (by kernel_rfl) H)) (fun x62 H => ?_)
                  refine lm_p (d := some 63) (by kernel_rfl) rfl (by kernel_rfl) (by kernel_rfl) (p_add (by kernel_rfl) (by kernel_rfl) H) (fun x63 H => ?_)
                  refine lm_p (d := some 64) (by kernel_rfl) rfl (by kernel_rfl) (by kernel_rfl) (p_ixs Try.underlying37 Try.sizeOf5 (by kernel_rfl) (by kernel_rfl) H) (fun x64 H => ?_)
                  refine lm_d (d := none) (by kernel_rfl) rfl (by kernel_rfl) (by kernel_rfl) (by kernel_rfl) HA_10 (d_st Try.sizeOf5 (by kernel_rfl) (by kernel_rfl) H) (fun _ h_9 w_11 H HA_11 => ?_)
                  refine lm_nil ?_
                  refine block_normal ?_
                  refine then_normal ?_
                  refine fr_eq (b := ⟨([x0, x1, undef, undef, (.bool false), x22, x6, x47, x8, undef, undef, undef, undef, x0, x14, x15, x15, (D 0), (D 1), (D 2), x20, undef, x22, x22, x24, x24, (D_1 0), (D_1 1), (D_1 2), (D_1 3), x30, x30, (D_2 0), (D_2 1), (D_2 2), (D_2 3), x36, x36, (D_3 0), (D_3 1), (D_3 2), (D_3 3), x42, x45, x22, x45, x46, x47, x8, x49] ++ [x50, x51, x52, (D_4 5), (D_4 6), x55, x56, x8, x58, x59, x8, x61, x62, x63, x64, undef, undef, undef, undef, undef, undef, undef, undef, undef, undef, undef, undef, undef, undef, undef, undef, undef, undef, undef, undef, undef, undef, undef, undef, undef, undef]).toArray, []⟩) (by kernel_rfl) ?_
                  refine lwp_list ?_
                  refine ls_move (x := x8) (by kernel_rfl) (by kernel_rfl) ?_
                  refine ls_p (d := some 54) (by kernel_rfl) (by kernel_rfl) (p_add (by kernel_rfl) (by kernel_rfl) H) (fun x54 H => ?_)
                  refine ls_assign (x := x54) (by kernel_rfl) (by kernel_rfl) ?_
                  refine ls_nil ?_
                  exact ⟨⟨(fun i => ([x8, x49, x50, x51, x52, x8, x54, x55, x56, x8, x58, x59, x8, x61, x62, x63, x64]).getD i undef), x54, h_9, by kernel_rfl, HA_11, H.1⟩, loop_lt HA_11.heap HA_9.heap (by kernel_rfl) (by kernel_rfl) H.2⟩
                · refine wp_exit ?_
                  refine then_exit ?_
                  refine then_exit ?_
                  refine block_exit ?_
                  refine then_normal ?_
                  refine fr_eq (b := ⟨([x0, x1, undef, undef, (.bool false), x22, x6, x47, x8, undef, undef, undef, undef, x0, x14, x15, x15, (D 0), (D 1), (D 2), x20, undef, x22, x22, x24, x24, (D_1 0), (D_1 1), (D_1 2), (D_1 3), x30, x30, (D_2 0), (D_2 1), (D_2 2), (D_2 3), x36, x36, (D_3 0), (D_3 1), (D_3 2), (D_3 3), x42, x45, x22, x45, x46, x47, x8, x49] ++ [x50, x51, x52, (D_4 5), (D_4 6), (D_4 7), (D_4 8), (D_4 9), (D_4 10), (D_4 11), (D_4 12), (D_4 13), (D_4 14), (D_4 15), (D_4 16), undef, undef, undef, undef, undef, undef, undef, undef, undef, undef, undef, undef, undef, undef, undef, undef, undef, undef, undef, undef, undef, undef, undef, undef, undef, undef]).toArray, []⟩) (by kernel_rfl) ?_
                  refine wp_seq ?_
                  refine lwp_list ?_
                  refine ls_move (x := x22) (by kernel_rfl) (by kernel_rfl) ?_
                  refine ls_d (d := some 67) (by kernel_rfl) (by kernel_rfl) HA_9 (d_call (by kernel_rfl) (by kernel_rfl) H) (fun x67 h_10 w_12 H HA_12 => ?_)
                  refine ls_move (x := x67) (by kernel_rfl) (by kernel_rfl) ?_
                  refine ls_p (d := some 68) (by kernel_rfl) (by kernel_rfl) (p_tup (by kernel_rfl) H) (fun x68 H => ?_)
                  refine ls_p (d := some 69) (by kernel_rfl) (by kernel_rfl) (p_tup (by kernel_rfl) H) (fun x69 H => ?_)
                  refine ls_d (d := some 9) (by kernel_rfl) (by kernel_rfl) HA_12 (d_alloc Try.zeroValue39 H) (fun x9 h_11 w_13 H HA_13 => ?_)
                  refine ls_fr (b := ⟨([x0, x1, undef, undef, (.bool false), x22, x6, x47, x8, x9, undef, undef, undef, x0, x14, x15, x15, (D 0), (D 1), (D 2), x20, undef, x22, x22, x24, x24, (D_1 0), (D_1 1), (D_1 2), (D_1 3), x30, x30, (D_2 0), (D_2 1), (D_2 2), (D_2 3), x36, x36, (D_3 0), (D_3 1), (D_3 2), (D_3 3), x42, x45, x22, x45, x46, x47, x8, x49] ++ [x50, x51, x52, (D_4 5), (D_4 6), (D_4 7), (D_4 8), (D_4 9), (D_4 10), (D_4 11), (D_4 12), (D_4 13), (D_4 14), (D_4 15), (D_4 16), x67, x22, x67, x68, x69, undef, undef, undef, undef, undef, undef, undef, undef, undef, undef, undef, undef, undef, undef, undef, undef, undef, undef, undef, undef, undef]).toArray, []⟩) (by kernel_rfl) ?_
                  refine ls_d (d := none) (by kernel_rfl) (by kernel_rfl) HA_13 (d_stn Try.sizeOf39 (by kernel_rfl) (by kernel_rfl) H) (fun _ h_12 w_14 H HA_14 => ?_)
                  refine ls_assign (x := x69) (by kernel_rfl) (by kernel_rfl) ?_
                  refine ls_nil ?_
                  refine then_normal ?_
                  refine fr_eq (b := ⟨([x0, x1, undef, undef, (.bool false), x22, x6, x47, x8, x9, x69, undef, undef, x0, x14, x15, x15, (D 0), (D 1), (D 2), x20, undef, x22, x22, x24, x24, (D_1 0), (D_1 1), (D_1 2), (D_1 3), x30, x30, (D_2 0), (D_2 1), (D_2 2), (D_2 3), x36, x36, (D_3 0), (D_3 1), (D_3 2), (D_3 3), x42, x45, x22, x45, x46, x47, x8, x49] ++ [x50, x51, x52, (D_4 5), (D_4 6), (D_4 7), (D_4 8), (D_4 9), (D_4 10), (D_4 11), (D_4 12), (D_4 13), (D_4 14), (D_4 15), (D_4 16), x67, x22, x67, x68, x69, undef, undef, undef, undef, undef, undef, undef, undef, undef, undef, undef, undef, undef, undef, undef, undef, undef, undef, undef, undef, undef]).toArray, []⟩) (by kernel_rfl) ?_
                  refine wp_seq ?_
                  refine lwp_list ?_
                  refine ls_move (x := x22) (by kernel_rfl) (by kernel_rfl) ?_
                  refine ls_d (d := some 72) (by kernel_rfl) (by kernel_rfl) HA_14 (d_call (by kernel_rfl) (by kernel_rfl) H) (fun x72 h_13 w_15 H HA_15 => ?_)
                  refine ls_move (x := x72) (by kernel_rfl) (by kernel_rfl) ?_
                  refine ls_p (d := some 73) (by kernel_rfl) (by kernel_rfl) (p_tup (by kernel_rfl) H) (fun x73 H => ?_)
                  refine ls_p (d := some 74) (by kernel_rfl) (by kernel_rfl) (p_tup (by kernel_rfl) H) (fun x74 H => ?_)
                  refine ls_d (d := some 11) (by kernel_rfl) (by kernel_rfl) HA_15 (d_alloc Try.zeroValue39 H) (fun x11 h_14 w_16 H HA_16 => ?_)
                  refine ls_fr (b := ⟨([x0, x1, undef, undef, (.bool false), x22, x6, x47, x8, x9, x69, x11, undef, x0, x14, x15, x15, (D 0), (D 1), (D 2), x20, undef, x22, x22, x24, x24, (D_1 0), (D_1 1), (D_1 2), (D_1 3), x30, x30, (D_2 0), (D_2 1), (D_2 2), (D_2 3), x36, x36, (D_3 0), (D_3 1), (D_3 2), (D_3 3), x42, x45, x22, x45, x46, x47, x8, x49] ++ [x50, x51, x52, (D_4 5), (D_4 6), (D_4 7), (D_4 8), (D_4 9), (D_4 10), (D_4 11), (D_4 12), (D_4 13), (D_4 14), (D_4 15), (D_4 16), x67, x22, x67, x68, x69, x72, x22, x72, x73, x74, undef, undef, undef, undef, undef, undef, undef, undef, undef, undef, undef, undef, undef, undef, undef, undef]).toArray, []⟩) (by kernel_rfl) ?_
                  refine ls_d (d := none) (by kernel_rfl) (by kernel_rfl) HA_16 (d_stn Try.sizeOf39 (by kernel_rfl) (by kernel_rfl) H) (fun _ h_15 w_17 H HA_17 => ?_)
                  refine ls_assign (x := x74) (by kernel_rfl) (by kernel_rfl) ?_
                  refine ls_nil ?_
                  refine then_normal ?_
                  refine fr_eq (b := ⟨([x0, x1, undef, undef, (.bool false), x22, x6, x47, x8, x9, x69, x11, x74, x0, x14, x15, x15, (D 0), (D 1), (D 2), x20, undef, x22, x22, x24, x24, (D_1 0), (D_1 1), (D_1 2), (D_1 3), x30, x30, (D_2 0), (D_2 1), (D_2 2), (D_2 3), x36, x36, (D_3 0), (D_3 1), (D_3 2), (D_3 3), x42, x45, x22, x45, x46, x47, x8, x49] ++ [x50, x51, x52, (D_4 5), (D_4 6), (D_4 7), (D_4 8), (D_4 9), (D_4 10), (D_4 11), (D_4 12), (D_4 13), (D_4 14), (D_4 15), (D_4 16), x67, x22, x67, x68, x69, x72, x22, x72, x73, x74, undef, undef, undef, undef, undef, undef, undef, undef, undef, undef, undef, undef, undef, undef, undef, undef]).toArray, []⟩) (by kernel_rfl) ?_
                  refine wp_seq ?_
                  refine lwp_list ?_
                  refine ls_move (x := x74) (by kernel_rfl) (by kernel_rfl) ?_
                  refine ls_move (x := x74) (by kernel_rfl) (by kernel_rfl) ?_
                  refine ls_andh [(), (), (), (), ()] (fun K a w => ∃ (D_5 : Nat → Value) (x81 : Value) (h_16 : Heap), a = ⟨([x0, x1, undef, undef, (.bool false), x22, x6, x47, x8, x9, x69, x11, x74, x0, x14, x15, x15, (D 0), (D 1), (D 2), x20, undef, x22, x22, x24, x24, (D_1 0), (D_1 1), (D_1 2), (D_1 3), x30, x30, (D_2 0), (D_2 1), (D_2 2), (D_2 3), x36, x36, (D_3 0), (D_3 1), (D_3 2), (D_3 3), x42, x45, x22, x45, x46, x47, x8, x49] ++ [x50, x51, x52, (D_4 5), (D_4 6), (D_4 7), (D_4 8), (D_4 9), (D_4 10), (D_4 11), (D_4 12), (D_4 13), (D_4 14), (D_4 15), (D_4 16), x67, x22, x67, x68, x69, x72, x22, x72, x73, x74, x74, x74, (D_5 0), (D_5 1), (D_5 2), (D_5 3), x81, undef, undef, undef, undef, undef, undef, undef, undef, undef]).toArray, []⟩ ∧ At w0 w h_16 ∧ K x81 h_16) H (fun hb_2 H => ?_) (fun hb_2 H => ?_) ?_
                  · refine ls_y (d := some 77) (by kernel_rfl) (by rw [hb_2]; kernel_rfl) HA_17 (y_ldn Try.isAgg39 Try.sizeOf39 (by kernel_rfl) H) (fun x77 H => ?_)
                    refine ls_move (x := x1) (by rw [hb_2]; kernel_rfl) (by kernel_rfl) ?_
                    refine ls_p (d := some 79) (by kernel_rfl) (by rw [hb_2]; kernel_rfl) (p_lit (pl := [(0, 1), (1, 1)]) Try.zeroValue39 Try.underlying39 ⟨(by kernel_rfl), Try.sizeOf3, (by kernel_rfl), Try.sizeOf37, trivial⟩ (by kernel_rfl) (by kernel_rfl) H) (fun x79 H => ?_)
                    refine ls_d (d := some 80) (by kernel_rfl) (by rw [hb_2]; kernel_rfl) HA_17 (d_call (by kernel_rfl) (by kernel_rfl) H) (fun x80 h_21 w_23 H HA_23 => ?_)
                    refine ls_fr (b := ⟨([x0, x1, undef, undef, (.bool false), x22, x6, x47, x8, x9, x69, x11, x74, x0, x14, x15, x15, (D 0), (D 1), (D 2), x20, undef, x22, x22, x24, x24, (D_1 0), (D_1 1), (D_1 2), (D_1 3), x30, x30, (D_2 0), (D_2 1), (D_2 2), (D_2 3), x36, x36, (D_3 0), (D_3 1), (D_3 2), (D_3 3), x42, x45, x22, x45, x46, x47, x8, x49] ++ [x50, x51, x52, (D_4 5), (D_4 6), (D_4 7), (D_4 8), (D_4 9), (D_4 10), (D_4 11), (D_4 12), (D_4 13), (D_4 14), (D_4 15), (D_4 16), x67, x22, x67, x68, x69, x72, x22, x72, x73, x74, x74, x74, x77, x1, x79, x80, undef, undef, undef, undef, undef, undef, undef, undef, undef, undef]).toArray, []⟩) (by kernel_rfl) ?_
                    refine ls_pick_t (x := x80) (by kernel_rfl) (by rw [hb_2]; kernel_rfl) (by kernel_rfl) ?_
                    refine ls_nil ?_
                    refine then_normal ?_
                    exact ⟨(fun i => ([x77, x1, x79, x80]).getD i undef), x80, h_21, by kernel_rfl, HA_23, H⟩
                  · refine ls_skip (d := some 77) (by kernel_rfl) (by rw [hb_2]; kernel_rfl) ?_
                    refine ls_skip (d := some 78) (by kernel_rfl) (by rw [hb_2]; kernel_rfl) ?_
                    refine ls_skip (d := some 79) (by kernel_rfl) (by rw [hb_2]; kernel_rfl) ?_
                    refine ls_skip (d := some 80) (by kernel_rfl) (by rw [hb_2]; kernel_rfl) ?_
                    refine ls_fr (b := ⟨([x0, x1, undef, undef, (.bool false), x22, x6, x47, x8, x9, x69, x11, x74, x0, x14, x15, x15, (D 0), (D 1), (D 2), x20, undef, x22, x22, x24, x24, (D_1 0), (D_1 1), (D_1 2), (D_1 3), x30, x30, (D_2 0), (D_2 1), (D_2 2), (D_2 3), x36, x36, (D_3 0), (D_3 1), (D_3 2), (D_3 3), x42, x45, x22, x45, x46, x47, x8, x49] ++ [x50, x51, x52, (D_4 5), (D_4 6), (D_4 7), (D_4 8), (D_4 9), (D_4 10), (D_4 11), (D_4 12), (D_4 13), (D_4 14), (D_4 15), (D_4 16), x67, x22, x67, x68, x69, x72, x22, x72, x73, x74, x74, x74, undef, undef, undef, undef, undef, undef, undef, undef, undef, undef, undef, undef, undef, undef]).toArray, []⟩) (by kernel_rfl) ?_
                    refine ls_pick_f (y := (.bool false)) (by kernel_rfl) (by rw [hb_2]; kernel_rfl) (by kernel_rfl) ?_
                    refine ls_nil ?_
                    refine then_normal ?_
                    exact ⟨(fun i => ([undef, undef, undef, undef]).getD i undef), (.bool false), h_15, by kernel_rfl, HA_17, H⟩
                  · rintro _ w_18 ⟨D_5, x81, h_16, rfl, HA_18, H⟩
                    refine ls_move (x := x81) (by kernel_rfl) (by kernel_rfl) ?_
                    refine ls_andh [(), (), (), (), ()] (fun K a w => ∃ (D_6 : Nat → Value) (x87 : Value) (h_17 : Heap), a = ⟨([x0, x1, undef, undef, (.bool false), x22, x6, x47, x8, x9, x69, x11, x74, x0, x14, x15, x15, (D 0), (D 1), (D 2), x20, undef, x22, x22, x24, x24, (D_1 0), (D_1 1), (D_1 2), (D_1 3), x30, x30, (D_2 0), (D_2 1), (D_2 2), (D_2 3), x36, x36, (D_3 0), (D_3 1), (D_3 2), (D_3 3), x42, x45, x22, x45, x46, x47, x8, x49] ++ [x50, x51, x52, (D_4 5), (D_4 6), (D_4 7), (D_4 8), (D_4 9), (D_4 10), (D_4 11), (D_4 12), (D_4 13), (D_4 14), (D_4 15), (D_4 16), x67, x22, x67, x68, x69, x72, x22, x72, x73, x74, x74, x74, (D_5 0), (D_5 1), (D_5 2), (D_5 3), x81, x81, (D_6 0), (D_6 1), (D_6 2), (D_6 3), x87, undef, undef, undef]).toArray, []⟩ ∧ At w0 w h_17 ∧ K x87 h_17) H (fun hb_1 H => ?_) (fun hb_1 H => ?_) ?_
                    · refine ls_y (d := some 83) (by kernel_rfl) (by rw [hb_1]; kernel_rfl) HA_18 (y_ldn Try.isAgg39 Try.sizeOf39 (by kernel_rfl) H) (fun x83 H => ?_)
                      refine ls_move (x := x0) (by rw [hb_1]; kernel_rfl) (by kernel_rfl) ?_
                      refine ls_p (d := some 85) (by kernel_rfl) (by rw [hb_1]; kernel_rfl) (p_lit (pl := [(0, 1), (1, 1)]) Try.zeroValue39 Try.underlying39 ⟨(by kernel_rfl), Try.sizeOf3, (by kernel_rfl), Try.sizeOf37, trivial⟩ (by kernel_rfl) (by kernel_rfl) H) (fun x85 H => ?_)
                      refine ls_d (d := some 86) (by kernel_rfl) (by rw [hb_1]; kernel_rfl) HA_18 (d_call (by kernel_rfl) (by kernel_rfl) H) (fun x86 h_20 w_22 H HA_22 => ?_)
                      refine ls_pick_t (x := x86) (by kernel_rfl) (by rw [hb_1]; kernel_rfl) (by kernel_rfl) ?_
                      refine ls_nil ?_
                      refine then_normal ?_
                      exact ⟨(fun i => ([x83, x0, x85, x86]).getD i undef), x86, h_20, by kernel_rfl, HA_22, H⟩
                    · refine ls_skip (d := some 83) (by kernel_rfl) (by rw [hb_1]; kernel_rfl) ?_
                      refine ls_skip (d := some 84) (by kernel_rfl) (by rw [hb_1]; kernel_rfl) ?_
                      refine ls_skip (d := some 85) (by kernel_rfl) (by rw [hb_1]; kernel_rfl) ?_
                      refine ls_skip (d := some 86) (by kernel_rfl) (by rw [hb_1]; kernel_rfl) ?_
                      refine ls_pick_f (y := (.bool false)) (by kernel_rfl) (by rw [hb_1]; kernel_rfl) (by kernel_rfl) ?_
                      refine ls_nil ?_
                      refine then_normal ?_
                      exact ⟨(fun i => ([undef, undef, undef, undef]).getD i undef), (.bool false), h_16, by kernel_rfl, HA_18, H⟩
                    · rintro _ w_19 ⟨D_6, x87, h_17, rfl, HA_19, H⟩
                      refine ls_move (x := x87) (by kernel_rfl) (by kernel_rfl) ?_
                      refine ls_andh [(), ()] (fun K a w => ∃ (D_7 : Nat → Value) (x90 : Value) (h_18 : Heap), a = ⟨([x0, x1, undef, undef, (.bool false), x22, x6, x47, x8, x9, x69, x11, x74, x0, x14, x15, x15, (D 0), (D 1), (D 2), x20, undef, x22, x22, x24, x24, (D_1 0), (D_1 1), (D_1 2), (D_1 3), x30, x30, (D_2 0), (D_2 1), (D_2 2), (D_2 3), x36, x36, (D_3 0), (D_3 1), (D_3 2), (D_3 3), x42, x45, x22, x45, x46, x47, x8, x49] ++ [x50, x51, x52, (D_4 5), (D_4 6), (D_4 7), (D_4 8), (D_4 9), (D_4 10), (D_4 11), (D_4 12), (D_4 13), (D_4 14), (D_4 15), (D_4 16), x67, x22, x67, x68, x69, x72, x22, x72, x73, x74, x74, x74, (D_5 0), (D_5 1), (D_5 2), (D_5 3), x81, x81, (D_6 0), (D_6 1), (D_6 2), (D_6 3), x87, x87, (D_7 0), x90]).toArray, []⟩ ∧ At w0 w h_18 ∧ K x90 h_18) H (fun hb H => ?_) (fun hb H => ?_) ?_
                      · refine ls_d (d := some 89) (by kernel_rfl) (by rw [hb]; kernel_rfl) HA_19 (d_call (by kernel_rfl) (by kernel_rfl) H) (fun x89 h_19 w_21 H HA_21 => ?_)
                        refine ls_pick_t (x := x89) (by kernel_rfl) (by rw [hb]; kernel_rfl) (by kernel_rfl) ?_
                        refine ls_nil ?_
                        refine then_normal ?_
                        exact ⟨(fun i => ([x89]).getD i undef), x89, h_19, by kernel_rfl, HA_21, H⟩
                      · refine ls_skip (d := some 89) (by kernel_rfl) (by rw [hb]; kernel_rfl) ?_
                        refine ls_pick_f (y := (.bool false)) (by kernel_rfl) (by rw [hb]; kernel_rfl) (by kernel_rfl) ?_
                        refine ls_nil ?_
                        refine then_normal ?_
                        exact ⟨(fun i => ([undef]).getD i undef), (.bool false), h_17, by kernel_rfl, HA_19, H⟩
                      · rintro _ w_20 ⟨D_7, x90, h_18, rfl, HA_20, H⟩
                        refine ls_assign (x := x90) (by kernel_rfl) (by kernel_rfl) ?_
                        refine ls_nil ?_
                        refine then_normal ?_
                        refine fr_eq (b := ⟨([x0, x1, undef, undef, x90, x22, x6, x47, x8, x9, x69, x11, x74, x0, x14, x15, x15, (D 0), (D 1), (D 2), x20, undef, x22, x22, x24, x24, (D_1 0), (D_1 1), (D_1 2), (D_1 3), x30, x30, (D_2 0), (D_2 1), (D_2 2), (D_2 3), x36, x36, (D_3 0), (D_3 1), (D_3 2), (D_3 3), x42, x45, x22, x45, x46, x47, x8, x49] ++ [x50, x51, x52, (D_4 5), (D_4 6), (D_4 7), (D_4 8), (D_4 9), (D_4 10), (D_4 11), (D_4 12), (D_4 13), (D_4 14), (D_4 15), (D_4 16), x67, x22, x67, x68, x69, x72, x22, x72, x73, x74, x74, x74, (D_5 0), (D_5 1), (D_5 2), (D_5 3), x81, x81, (D_6 0), (D_6 1), (D_6 2), (D_6 3), x87, x87, (D_7 0), x90]).toArray, []⟩) (by kernel_rfl) ?_
                        refine wp_ret ?_
                        exact end1 (Try.results8) (by kernel_rfl) (by kernel_rfl) HA_20 H _ (.inr rfl)

end Go.Proofs.Ytpgpbhbpamgboaa
