/- The shallow reading of one function, and that the function does it. Written by a program. -/
import Derived.Test.YtpgpbhbpamgboaaFnC
set_option linter.unusedVariables false
namespace Go.Proofs.Ytpgpbhbpamgboaa
open Go Go.HW

def betonylaw14_IpcRound_j2 (next : Value → Value → Heap → Prop) (x11 x10_1 : Value) (h_2 : Heap) : Prop :=
  sAdd .i64 x11 (.int .i64 1) fun x31 =>
  next x10_1 x31 h_2
def betonylaw14_IpcRound_l1 (R : Value → Heap → Prop) (x1 x19 x25 : Value) (next : Value → Value → Heap → Prop) (x10 x11 : Value) (h_1 : Heap) : Prop :=
  sConv .i64 x1 fun x28 =>
  sLt x11 x28 fun x29 =>
  sIf x29 (sConv .u8 x11 fun x35 =>
  sSlit h_1 #[.int .u8 0] [(0, 1, x35)] 5 1 fun x36 h_3 => 
  ipc_Ring_Send_c x19 x11 x36 h_3 fun x37 h_4 => 
  sNe x37 (.int .i64 0) fun x38 =>
  sIf x38 (R (.bool false) h_4) (ipc_Ring_Len_c x19 h_4 fun x40 h_5 => 
  sGt x40 x25 fun x42 =>
  sIf x42 (ipc_Ring_Take_c x19 h_5 fun x45 h_6 => 
  sTup x45 0 fun x46 =>
  sTup x45 1 fun x47 =>
  sNew h_6 #[.int .i64 0, .slice none 0 0] 39 fun x12 h_7 => 
  sStN h_7 x12 x46 2 fun h_8 => 
  sNot x47 fun x49 =>
  sOr x49 (fun k_2 =>
  sOff x12 0 fun x51 =>
  sLd h_8 x51 fun x52 =>
  sNe x52 x10 fun x54 =>
  k_2 x54) fun x55 =>
  sOr x55 (fun k_1 =>
  sOff x12 1 fun x57 =>
  sLd h_8 x57 fun x58 =>
  sLen x58 fun x59 =>
  sNe x59 (.int .i64 1) fun x60 =>
  k_1 x60) fun x61 =>
  sOr x61 (fun k =>
  sOff x12 1 fun x63 =>
  sLd h_8 x63 fun x64 =>
  sIxS x64 (.int .i64 0) 1 fun x65 =>
  sLd h_8 x65 fun x66 =>
  sConv .u8 x10 fun x68 =>
  sNe x66 x68 fun x69 =>
  k x69) fun x70 =>
  sIf x70 (R (.bool false) h_8) (sAdd .i64 x10 (.int .i64 1) fun x72 =>
  betonylaw14_IpcRound_j2 next x11 x72 h_8)) (betonylaw14_IpcRound_j2 next x11 x10 h_5))) (ipc_Ring_Len_c x19 h_1 fun x74 h_9 => 
  sConv .i64 x1 fun x76 =>
  sSub .i64 x76 x10 fun x78 =>
  sEq x74 x78 fun x79 =>
  sAndH x79 h_9 (fun k_3 =>
  betonylaw14_awake_c  h_9 fun x81 h_11 => 
  k_3 x81 h_11) fun x82 h_10 =>
  R x82 h_10)
def betonylaw14_IpcRound_S (x0 x1 x2 : Value) (h : Heap) (R : Value → Heap → Prop) : Prop :=
  sConv .i64 x0 fun x15 =>
  sRem .i64 x15 (.int .i64 20) fun x16 =>
  sAdd .i64 (.int .i64 1) x16 fun x17 =>
  ipc_New_c x17 h fun x19 h => 
  sEqlNil x19 fun x21 =>
  sIf x21 (R (.bool false) h) (sConv .i64 x2 fun x23 =>
  sRem .i64 x23 x17 fun x25 =>
  sLoop (S := Value × Value) (fun nxt s h => betonylaw14_IpcRound_l1 R x1 x19 x25 (fun x10' x11' h => nxt (x10', x11') h) s.1 s.2 h) ((.int .i64 0), (.int .i64 0)) h)
set_option maxRecDepth 100000 in
theorem betonylaw14_IpcRound_runs {x0 x1 x2 : Value} {h : Heap} {R : Value → Heap → Prop} (H : betonylaw14_IpcRound_S x0 x1 x2 h R) : betonylaw14_IpcRound_c x0 x1 x2 h R := by
  unfold betonylaw14_IpcRound_S at H
  refine runs_of (b := ⟨([x0, x1, x2, undef, undef, undef, undef, undef, undef, undef, undef, undef, undef, undef, undef, undef, undef, undef, undef, undef, undef, undef, undef, undef, undef, undef, undef, undef, undef, undef, undef, undef, undef, undef, undef, undef, undef, undef, undef, undef, undef, undef, undef, undef, undef, undef, undef, undef, undef, undef] ++ [undef, undef, undef, undef, undef, undef, undef, undef, undef, undef, undef, undef, undef, undef, undef, undef, undef, undef, undef, undef, undef, undef, undef, undef, undef, undef, undef, undef, undef, undef, undef, undef, undef]).toArray, []⟩) Try.call7 Try.func7 rfl (by kernel_rfl) (fun w0 HA => ?_)
  refine wp_seq ?_
  refine lwp_list ?_
  refine ls_assign (x := (.bool false)) (by kernel_rfl) (by kernel_rfl) ?_
  refine ls_nil ?_
  refine then_normal ?_
  refine fr_eq (b := ⟨([x0, x1, x2, undef, undef, undef, (.bool false), undef, undef, undef, undef, undef, undef, undef, undef, undef, undef, undef, undef, undef, undef, undef, undef, undef, undef, undef, undef, undef, undef, undef, undef, undef, undef, undef, undef, undef, undef, undef, undef, undef, undef, undef, undef, undef, undef, undef, undef, undef, undef, undef] ++ [undef, undef, undef, undef, undef, undef, undef, undef, undef, undef, undef, undef, undef, undef, undef, undef, undef, undef, undef, undef, undef, undef, undef, undef, undef, undef, undef, undef, undef, undef, undef, undef, undef]).toArray, []⟩) (by kernel_rfl) ?_
  refine wp_seq ?_
  refine lwp_list ?_
  refine ls_move (x := x0) (by kernel_rfl) (by kernel_rfl) ?_
  refine ls_p (d := some 15) (by kernel_rfl) (by kernel_rfl) (p_conv Try.underlying5 Try.underlying3 (by kernel_rfl) H) (fun x15 H => ?_)
  refine ls_p (d := some 16) (by kernel_rfl) (by kernel_rfl) (p_rem (by kernel_rfl) (by kernel_rfl) H) (fun x16 H => ?_)
  refine ls_p (d := some 17) (by kernel_rfl) (by kernel_rfl) (p_add (by kernel_rfl) (by kernel_rfl) H) (fun x17 H => ?_)
  refine ls_assign (x := x17) (by kernel_rfl) (by kernel_rfl) ?_
  refine ls_nil ?_
  refine then_normal ?_
  refine fr_eq (b := ⟨([x0, x1, x2, undef, undef, undef, (.bool false), x17, undef, undef, undef, undef, undef, undef, x0, x15, x16, x17, undef, undef, undef, undef, undef, undef, undef, undef, undef, undef, undef, undef, undef, undef, undef, undef, undef, undef, undef, undef, undef, undef, undef, undef, undef, undef, undef, undef, undef, undef, undef, undef] ++ [undef, undef, undef, undef, undef, undef, undef, undef, undef, undef, undef, undef, undef, undef, undef, undef, undef, undef, undef, undef, undef, undef, undef, undef, undef, undef, undef, undef, undef, undef, undef, undef, undef]).toArray, []⟩) (by kernel_rfl) ?_
  refine wp_seq ?_
  refine lwp_list ?_
  refine ls_move (x := x17) (by kernel_rfl) (by kernel_rfl) ?_
  refine ls_d (d := some 19) (by kernel_rfl) (by kernel_rfl) HA (d_call (by kernel_rfl) (by kernel_rfl) H) (fun x19 h w H HA => ?_)
  refine ls_assign (x := x19) (by kernel_rfl) (by kernel_rfl) ?_
  refine ls_nil ?_
  refine then_normal ?_
  refine fr_eq (b := ⟨([x0, x1, x2, undef, undef, undef, (.bool false), x17, x19, undef, undef, undef, undef, undef, x0, x15, x16, x17, x17, x19, undef, undef, undef, undef, undef, undef, undef, undef, undef, undef, undef, undef, undef, undef, undef, undef, undef, undef, undef, undef, undef, undef, undef, undef, undef, undef, undef, undef, undef, undef] ++ [undef, undef, undef, undef, undef, undef, undef, undef, undef, undef, undef, undef, undef, undef, undef, undef, undef, undef, undef, undef, undef, undef, undef, undef, undef, undef, undef, undef, undef, undef, undef, undef, undef]).toArray, []⟩) (by kernel_rfl) ?_
  refine wp_seq ?_
  refine wp_seq ?_
  refine lwp_list ?_
  refine ls_move (x := x19) (by kernel_rfl) (by kernel_rfl) ?_
  refine ls_p (d := some 21) (by kernel_rfl) (by kernel_rfl) (p_eqlNil Try.underlying35 (by kernel_rfl) (by kernel_rfl) H) (fun x21 H => ?_)
  refine ls_nil ?_
  refine then_normal ?_
  refine fr_eq (b := ⟨([x0, x1, x2, undef, undef, undef, (.bool false), x17, x19, undef, undef, undef, undef, undef, x0, x15, x16, x17, x17, x19, x19, x21, undef, undef, undef, undef, undef, undef, undef, undef, undef, undef, undef, undef, undef, undef, undef, undef, undef, undef, undef, undef, undef, undef, undef, undef, undef, undef, undef, undef] ++ [undef, undef, undef, undef, undef, undef, undef, undef, undef, undef, undef, undef, undef, undef, undef, undef, undef, undef, undef, undef, undef, undef, undef, undef, undef, undef, undef, undef, undef, undef, undef, undef, undef]).toArray, []⟩) (by kernel_rfl) ?_
  refine wp_if rfl H (fun H => ?_) (fun H => ?_)
  · refine wp_seq ?_
    refine lwp_list ?_
    refine ls_assign (x := (.bool false)) (by kernel_rfl) (by kernel_rfl) ?_
    refine ls_nil ?_
    refine then_normal ?_
    refine fr_eq (b := ⟨([x0, x1, x2, undef, undef, undef, (.bool false), x17, x19, undef, undef, undef, undef, undef, x0, x15, x16, x17, x17, x19, x19, x21, undef, undef, undef, undef, undef, undef, undef, undef, undef, undef, undef, undef, undef, undef, undef, undef, undef, undef, undef, undef, undef, undef, undef, undef, undef, undef, undef, undef] ++ [undef, undef, undef, undef, undef, undef, undef, undef, undef, undef, undef, undef, undef, undef, undef, undef, undef, undef, undef, undef, undef, undef, undef, undef, undef, undef, undef, undef, undef, undef, undef, undef, undef]).toArray, []⟩) (by kernel_rfl) ?_
    refine wp_ret ?_
    refine then_ret ?_
    exact end1 (Try.results7) (by kernel_rfl) (by kernel_rfl) HA H _ (.inr rfl)
  · refine wp_skip ?_
    refine then_normal ?_
    refine fr_eq (b := ⟨([x0, x1, x2, undef, undef, undef, (.bool false), x17, x19, undef, undef, undef, undef, undef, x0, x15, x16, x17, x17, x19, x19, x21, undef, undef, undef, undef, undef, undef, undef, undef, undef, undef, undef, undef, undef, undef, undef, undef, undef, undef, undef, undef, undef, undef, undef, undef, undef, undef, undef, undef] ++ [undef, undef, undef, undef, undef, undef, undef, undef, undef, undef, undef, undef, undef, undef, undef, undef, undef, undef, undef, undef, undef, undef, undef, undef, undef, undef, undef, undef, undef, undef, undef, undef, undef]).toArray, []⟩) (by kernel_rfl) ?_
    refine wp_seq ?_
    refine lwp_list ?_
    refine ls_move (x := x2) (by kernel_rfl) (by kernel_rfl) ?_
    refine ls_p (d := some 23) (by kernel_rfl) (by kernel_rfl) (p_conv Try.underlying5 Try.underlying3 (by kernel_rfl) H) (fun x23 H => ?_)
    refine ls_move (x := x17) (by kernel_rfl) (by kernel_rfl) ?_
    refine ls_p (d := some 25) (by kernel_rfl) (by kernel_rfl) (p_rem (by kernel_rfl) (by kernel_rfl) H) (fun x25 H => ?_)
    refine ls_assign (x := x25) (by kernel_rfl) (by kernel_rfl) ?_
    refine ls_nil ?_
    refine then_normal ?_
    refine fr_eq (b := ⟨([x0, x1, x2, undef, undef, undef, (.bool false), x17, x19, x25, undef, undef, undef, undef, x0, x15, x16, x17, x17, x19, x19, x21, x2, x23, x17, x25, undef, undef, undef, undef, undef, undef, undef, undef, undef, undef, undef, undef, undef, undef, undef, undef, undef, undef, undef, undef, undef, undef, undef, undef] ++ [undef, undef, undef, undef, undef, undef, undef, undef, undef, undef, undef, undef, undef, undef, undef, undef, undef, undef, undef, undef, undef, undef, undef, undef, undef, undef, undef, undef, undef, undef, undef, undef, undef]).toArray, []⟩) (by kernel_rfl) ?_
    refine wp_seq ?_
    refine lwp_list ?_
    refine ls_assign (x := (.int .i64 0)) (by kernel_rfl) (by kernel_rfl) ?_
    refine ls_nil ?_
    refine then_normal ?_
    refine fr_eq (b := ⟨([x0, x1, x2, undef, undef, undef, (.bool false), x17, x19, x25, (.int .i64 0), undef, undef, undef, x0, x15, x16, x17, x17, x19, x19, x21, x2, x23, x17, x25, undef, undef, undef, undef, undef, undef, undef, undef, undef, undef, undef, undef, undef, undef, undef, undef, undef, undef, undef, undef, undef, undef, undef, undef] ++ [undef, undef, undef, undef, undef, undef, undef, undef, undef, undef, undef, undef, undef, undef, undef, undef, undef, undef, undef, undef, undef, undef, undef, undef, undef, undef, undef, undef, undef, undef, undef, undef, undef]).toArray, []⟩) (by kernel_rfl) ?_
    refine wp_seq ?_
    refine wp_seq ?_
    refine lwp_list ?_
    refine ls_assign (x := (.int .i64 0)) (by kernel_rfl) (by kernel_rfl) ?_
    refine ls_nil ?_
    refine then_normal ?_
    refine fr_eq (b := ⟨([x0, x1, x2, undef, undef, undef, (.bool false), x17, x19, x25, (.int .i64 0), (.int .i64 0), undef, undef, x0, x15, x16, x17, x17, x19, x19, x21, x2, x23, x17, x25, undef, undef, undef, undef, undef, undef, undef, undef, undef, undef, undef, undef, undef, undef, undef, undef, undef, undef, undef, undef, undef, undef, undef, undef] ++ [undef, undef, undef, undef, undef, undef, undef, undef, undef, undef, undef, undef, undef, undef, undef, undef, undef, undef, undef, undef, undef, undef, undef, undef, undef, undef, undef, undef, undef, undef, undef, undef, undef]).toArray, []⟩) (by kernel_rfl) ?_
    refine wp_block ?_
    obtain ⟨I, m, H0, HB⟩ := H
    refine wp_loop (fun a w => ∃ (D : Nat → Value) (x10 x11 : Value) (h_1 : Heap), a = ⟨([x0, x1, x2, undef, undef, undef, (D 0), x17, x19, x25, x10, x11, (D 1), (D 2), x0, x15, x16, x17, x17, x19, x19, x21, x2, x23, x17, x25, (D 3), (D 4), (D 5), (D 6), (D 7), (D 8), (D 9), (D 10), (D 11), (D 12), (D 13), (D 14), (D 15), (D 16), (D 17), (D 18), (D 19), (D 20), (D 21), (D 22), (D 23), (D 24), (D 25), (D 26)] ++ [(D 27), (D 28), (D 29), (D 30), (D 31), (D 32), (D 33), (D 34), (D 35), (D 36), (D 37), (D 38), (D 39), (D 40), (D 41), (D 42), (D 43), (D 44), (D 45), (D 46), (D 47), (D 48), (D 49), undef, undef, undef, undef, undef, undef, undef, undef, undef, undef]).toArray, []⟩ ∧ At w0 w h_1 ∧ I (x10, x11) h_1) (fun a w => m ((a.tmps.getD 10 undef), (a.tmps.getD 11 undef)) w.heap) ?_ ?_
    · exact ⟨(fun i => ([(.bool false), undef, undef, undef, undef, undef, undef, undef, undef, undef, undef, undef, undef, undef, undef, undef, undef, undef, undef, undef, undef, undef, undef, undef, undef, undef, undef, undef, undef, undef, undef, undef, undef, undef, undef, undef, undef, undef, undef, undef, undef, undef, undef, undef, undef, undef, undef, undef, undef, undef]).getD i undef), (.int .i64 0), (.int .i64 0), h, by kernel_rfl, HA, H0⟩
    · rintro _ w_1 ⟨D, x10, x11, h_1, rfl, HA_1, HI⟩
      have H : betonylaw14_IpcRound_l1 R x1 x19 x25 (fun x10' x11' h' => I (x10', x11') h' ∧ m (x10', x11') h' < m (x10, x11) h_1) x10 x11 h_1 := HB (x10, x11) h_1 HI
      clear HB H0 HI
      unfold betonylaw14_IpcRound_l1 at H
      refine wp_seq ?_
      refine wp_seq ?_
      refine lwp_list ?_
      refine ls_move (x := x11) (by kernel_rfl) (by kernel_rfl) ?_
      refine ls_move (x := x1) (by kernel_rfl) (by kernel_rfl) ?_
      refine ls_p (d := some 28) (by kernel_rfl) (by kernel_rfl) (p_conv Try.underlying5 Try.underlying3 (by kernel_rfl) H) (fun x28 H => ?_)
      refine ls_p (d := some 29) (by kernel_rfl) (by kernel_rfl) (p_sLt (by kernel_rfl) (by kernel_rfl) H) (fun x29 H => ?_)
      refine ls_nil ?_
      refine then_normal ?_
      refine fr_eq (b := ⟨([x0, x1, x2, undef, undef, undef, (D 0), x17, x19, x25, x10, x11, (D 1), (D 2), x0, x15, x16, x17, x17, x19, x19, x21, x2, x23, x17, x25, x11, x1, x28, x29, (D 7), (D 8), (D 9), (D 10), (D 11), (D 12), (D 13), (D 14), (D 15), (D 16), (D 17), (D 18), (D 19), (D 20), (D 21), (D 22), (D 23), (D 24), (D 25), (D 26)] ++ [(D 27), (D 28), (D 29), (D 30), (D 31), (D 32), (D 33), (D 34), (D 35), (D 36), (D 37), (D 38), (D 39), (D 40), (D 41), (D 42), (D 43), (D 44), (D 45), (D 46), (D 47), (D 48), (D 49), undef, undef, undef, undef, undef, undef, undef, undef, undef, undef]).toArray, []⟩) (by kernel_rfl) ?_
      refine wp_if rfl H (fun H => ?_) (fun H => ?_)
      · refine wp_skip ?_
        refine then_normal ?_
        refine fr_eq (b := ⟨([x0, x1, x2, undef, undef, undef, (D 0), x17, x19, x25, x10, x11, (D 1), (D 2), x0, x15, x16, x17, x17, x19, x19, x21, x2, x23, x17, x25, x11, x1, x28, x29, (D 7), (D 8), (D 9), (D 10), (D 11), (D 12), (D 13), (D 14), (D 15), (D 16), (D 17), (D 18), (D 19), (D 20), (D 21), (D 22), (D 23), (D 24), (D 25), (D 26)] ++ [(D 27), (D 28), (D 29), (D 30), (D 31), (D 32), (D 33), (D 34), (D 35), (D 36), (D 37), (D 38), (D 39), (D 40), (D 41), (D 42), (D 43), (D 44), (D 45), (D 46), (D 47), (D 48), (D 49), undef, undef, undef, undef, undef, undef, undef, undef, undef, undef]).toArray, []⟩) (by kernel_rfl) ?_
        refine wp_seq ?_
        refine wp_join (fun a w => ∃ (D_1 : Nat → Value) (x10_1 : Value) (h_2 : Heap), a = ⟨([x0, x1, x2, undef, undef, undef, (D_1 0), x17, x19, x25, x10_1, x11, (D_1 1), (D_1 2), x0, x15, x16, x17, x17, x19, x19, x21, x2, x23, x17, x25, x11, x1, x28, x29, (D 7), (D 8), (D_1 3), (D_1 4), (D_1 5), (D_1 6), (D_1 7), (D_1 8), (D_1 9), (D_1 10), (D_1 11), (D_1 12), (D_1 13), (D_1 14), (D_1 15), (D_1 16), (D_1 17), (D_1 18), (D_1 19), (D_1 20)] ++ [(D_1 21), (D_1 22), (D_1 23), (D_1 24), (D_1 25), (D_1 26), (D_1 27), (D_1 28), (D_1 29), (D_1 30), (D_1 31), (D_1 32), (D_1 33), (D_1 34), (D_1 35), (D_1 36), (D_1 37), (D_1 38), (D_1 39), (D_1 40), (D_1 41), (D_1 42), (D_1 43), undef, undef, undef, undef, undef, undef, undef, undef, undef, undef]).toArray, []⟩ ∧ At w0 w h_2 ∧ betonylaw14_IpcRound_j2 (fun x10' x11' h' => I (x10', x11') h' ∧ m (x10', x11') h' < m (x10, x11) h_1) x11 x10_1 h_2) ?_ ?_
        · refine wp_block ?_
          refine wp_seq ?_
          refine wp_seq ?_
          refine lwp_list ?_
          refine ls_move (x := x19) (by kernel_rfl) (by kernel_rfl) ?_
          refine ls_move (x := x11) (by kernel_rfl) (by kernel_rfl) ?_
          refine ls_move (x := x11) (by kernel_rfl) (by kernel_rfl) ?_
          refine ls_p (d := some 35) (by kernel_rfl) (by kernel_rfl) (p_conv Try.underlying3 Try.underlying5 (by kernel_rfl) H) (fun x35 H => ?_)
          refine ls_d (d := some 36) (by kernel_rfl) (by kernel_rfl) HA_1 (d_slit (zc := #[.int .u8 0]) Try.underlying37 Try.sizeOf5 (by decide) (.inr ⟨by decide, _, Try.zeroValue5, (by kernel_rfl)⟩) (by kernel_rfl) (by kernel_rfl) H) (fun x36 h_3 w_3 H HA_3 => ?_)
          refine ls_d (d := some 37) (by kernel_rfl) (by kernel_rfl) HA_3 (d_call (by kernel_rfl) (by kernel_rfl) H) (fun x37 h_4 w_4 H HA_4 => ?_)
          refine ls_fr (b := ⟨([x0, x1, x2, undef, undef, undef, (D 0), x17, x19, x25, x10, x11, (D 1), (D 2), x0, x15, x16, x17, x17, x19, x19, x21, x2, x23, x17, x25, x11, x1, x28, x29, (D 7), (D 8), x19, x11, x11, x35, x36, x37, (D 15), (D 16), (D 17), (D 18), (D 19), (D 20), (D 21), (D 22), (D 23), (D 24), (D 25), (D 26)] ++ [(D 27), (D 28), (D 29), (D 30), (D 31), (D 32), (D 33), (D 34), (D 35), (D 36), (D 37), (D 38), (D 39), (D 40), (D 41), (D 42), (D 43), (D 44), (D 45), (D 46), (D 47), (D 48), (D 49), undef, undef, undef, undef, undef, undef, undef, undef, undef, undef]).toArray, []⟩) (by kernel_rfl) ?_
          refine ls_p (d := some 38) (by kernel_rfl) (by kernel_rfl) (p_sNe (by kernel_rfl) (by kernel_rfl) H) (fun x38 H => ?_)
          refine ls_nil ?_
          refine then_normal ?_
          refine fr_eq (b := ⟨([x0, x1, x2, undef, undef, undef, (D 0), x17, x19, x25, x10, x11, (D 1), (D 2), x0, x15, x16, x17, x17, x19, x19, x21, x2, x23, x17, x25, x11, x1, x28, x29, (D 7), (D 8), x19, x11, x11, x35, x36, x37, x38, (D 16), (D 17), (D 18), (D 19), (D 20), (D 21), (D 22), (D 23), (D 24), (D 25), (D 26)] ++ [(D 27), (D 28), (D 29), (D 30), (D 31), (D 32), (D 33), (D 34), (D 35), (D 36), (D 37), (D 38), (D 39), (D 40), (D 41), (D 42), (D 43), (D 44), (D 45), (D 46), (D 47), (D 48), (D 49), undef, undef, undef, undef, undef, undef, undef, undef, undef, undef]).toArray, []⟩) (by kernel_rfl) ?_
          refine wp_if rfl H (fun H => ?_) (fun H => ?_)
          · refine wp_seq ?_
            refine lwp_list ?_
            refine ls_assign (x := (.bool false)) (by kernel_rfl) (by kernel_rfl) ?_
            refine ls_nil ?_
            refine then_normal ?_
            refine fr_eq (b := ⟨([x0, x1, x2, undef, undef, undef, (.bool false), x17, x19, x25, x10, x11, (D 1), (D 2), x0, x15, x16, x17, x17, x19, x19, x21, x2, x23, x17, x25, x11, x1, x28, x29, (D 7), (D 8), x19, x11, x11, x35, x36, x37, x38, (D 16), (D 17), (D 18), (D 19), (D 20), (D 21), (D 22), (D 23), (D 24), (D 25), (D 26)] ++ [(D 27), (D 28), (D 29), (D 30), (D 31), (D 32), (D 33), (D 34), (D 35), (D 36), (D 37), (D 38), (D 39), (D 40), (D 41), (D 42), (D 43), (D 44), (D 45), (D 46), (D 47), (D 48), (D 49), undef, undef, undef, undef, undef, undef, undef, undef, undef, undef]).toArray, []⟩) (by kernel_rfl) ?_
            refine wp_ret ?_
            refine then_ret ?_
            refine block_ret ?_
            refine then_ret ?_
            refine then_ret ?_
            refine then_ret ?_
            refine block_ret ?_
            refine then_ret ?_
            exact end1 (Try.results7) (by kernel_rfl) (by kernel_rfl) HA_4 H _ (.inr rfl)
          · refine wp_skip ?_
            refine then_normal ?_
            refine fr_eq (b := ⟨([x0, x1, x2, undef, undef, undef, (D 0), x17, x19, x25, x10, x11, (D 1), (D 2), x0, x15, x16, x17, x17, x19, x19, x21, x2, x23, x17, x25, x11, x1, x28, x29, (D 7), (D 8), x19, x11, x11, x35, x36, x37, x38, (D 16), (D 17), (D 18), (D 19), (D 20), (D 21), (D 22), (D 23), (D 24), (D 25), (D 26)] ++ [(D 27), (D 28), (D 29), (D 30), (D 31), (D 32), (D 33), (D 34), (D 35), (D 36), (D 37), (D 38), (D 39), (D 40), (D 41), (D 42), (D 43), (D 44), (D 45), (D 46), (D 47), (D 48), (D 49), undef, undef, undef, undef, undef, undef, undef, undef, undef, undef]).toArray, []⟩) (by kernel_rfl) ?_
            refine wp_seq ?_
            refine lwp_list ?_
            refine ls_move (x := x19) (by kernel_rfl) (by kernel_rfl) ?_
            refine ls_d (d := some 40) (by kernel_rfl) (by kernel_rfl) HA_4 (d_call (by kernel_rfl) (by kernel_rfl) H) (fun x40 h_5 w_5 H HA_5 => ?_)
            refine ls_move (x := x25) (by kernel_rfl) (by kernel_rfl) ?_
            refine ls_p (d := some 42) (by kernel_rfl) (by kernel_rfl) (p_sGt (by kernel_rfl) (by kernel_rfl) H) (fun x42 H => ?_)
            refine ls_nil ?_
            refine then_normal ?_
            refine fr_eq (b := ⟨([x0, x1, x2, undef, undef, undef, (D 0), x17, x19, x25, x10, x11, (D 1), (D 2), x0, x15, x16, x17, x17, x19, x19, x21, x2, x23, x17, x25, x11, x1, x28, x29, (D 7), (D 8), x19, x11, x11, x35, x36, x37, x38, x19, x40, x25, x42, (D 20), (D 21), (D 22), (D 23), (D 24), (D 25), (D 26)] ++ [(D 27), (D 28), (D 29), (D 30), (D 31), (D 32), (D 33), (D 34), (D 35), (D 36), (D 37), (D 38), (D 39), (D 40), (D 41), (D 42), (D 43), (D 44), (D 45), (D 46), (D 47), (D 48), (D 49), undef, undef, undef, undef, undef, undef, undef, undef, undef, undef]).toArray, []⟩) (by kernel_rfl) ?_
            refine wp_if rfl H (fun H => ?_) (fun H => ?_)
            · refine wp_seq ?_
              refine lwp_list ?_
              refine ls_move (x := x19) (by kernel_rfl) (by kernel_rfl) ?_
              refine ls_d (d := some 45) (by kernel_rfl) (by kernel_rfl) HA_5 (d_call (by kernel_rfl) (by kernel_rfl) H) (fun x45 h_6 w_6 H HA_6 => ?_)
              refine ls_move (x := x45) (by kernel_rfl) (by kernel_rfl) ?_
              refine ls_p (d := some 46) (by kernel_rfl) (by kernel_rfl) (p_tup (by kernel_rfl) H) (fun x46 H => ?_)
              refine ls_p (d := some 47) (by kernel_rfl) (by kernel_rfl) (p_tup (by kernel_rfl) H) (fun x47 H => ?_)
              refine ls_d (d := some 12) (by kernel_rfl) (by kernel_rfl) HA_6 (d_alloc Try.zeroValue39 H) (fun x12 h_7 w_7 H HA_7 => ?_)
              refine ls_fr (b := ⟨([x0, x1, x2, undef, undef, undef, (D 0), x17, x19, x25, x10, x11, x12, (D 2), x0, x15, x16, x17, x17, x19, x19, x21, x2, x23, x17, x25, x11, x1, x28, x29, (D 7), (D 8), x19, x11, x11, x35, x36, x37, x38, x19, x40, x25, x42, x45, x19, x45, x46, x47, (D 25), (D 26)] ++ [(D 27), (D 28), (D 29), (D 30), (D 31), (D 32), (D 33), (D 34), (D 35), (D 36), (D 37), (D 38), (D 39), (D 40), (D 41), (D 42), (D 43), (D 44), (D 45), (D 46), (D 47), (D 48), (D 49), undef, undef, undef, undef, undef, undef, undef, undef, undef, undef]).toArray, []⟩) (by kernel_rfl) ?_
              refine ls_d (d := none) (by kernel_rfl) (by kernel_rfl) HA_7 (d_stn Try.sizeOf39 (by kernel_rfl) (by kernel_rfl) H) (fun _ h_8 w_8 H HA_8 => ?_)
              refine ls_assign (x := x47) (by kernel_rfl) (by kernel_rfl) ?_
              refine ls_nil ?_
              refine then_normal ?_
              refine fr_eq (b := ⟨([x0, x1, x2, undef, undef, undef, (D 0), x17, x19, x25, x10, x11, x12, x47, x0, x15, x16, x17, x17, x19, x19, x21, x2, x23, x17, x25, x11, x1, x28, x29, (D 7), (D 8), x19, x11, x11, x35, x36, x37, x38, x19, x40, x25, x42, x45, x19, x45, x46, x47, (D 25), (D 26)] ++ [(D 27), (D 28), (D 29), (D 30), (D 31), (D 32), (D 33), (D 34), (D 35), (D 36), (D 37), (D 38), (D 39), (D 40), (D 41), (D 42), (D 43), (D 44), (D 45), (D 46), (D 47), (D 48), (D 49), undef, undef, undef, undef, undef, undef, undef, undef, undef, undef]).toArray, []⟩) (by kernel_rfl) ?_
              refine wp_seq ?_
              refine wp_seq ?_
              refine lwp_list ?_
              refine ls_move (x := x47) (by kernel_rfl) (by kernel_rfl) ?_
              refine ls_p (d := some 49) (by kernel_rfl) (by kernel_rfl) (p_not (by kernel_rfl) H) (fun x49 H => ?_)
              refine ls_move (x := x49) (by kernel_rfl) (by kernel_rfl) ?_
              refine ls_or [(), (), (), (), ()] (fun K a w => ∃ (D_2 : Nat → Value) (x55 : Value), a = ⟨([x0, x1, x2, undef, undef, undef, (D 0), x17, x19, x25, x10, x11, x12, x47, x0, x15, x16, x17, x17, x19, x19, x21, x2, x23, x17, x25, x11, x1, x28, x29, (D 7), (D 8), x19, x11, x11, x35, x36, x37, x38, x19, x40, x25, x42, x45, x19, x45, x46, x47, x47, x49] ++ [x49, (D_2 0), (D_2 1), (D_2 2), (D_2 3), x55, (D 33), (D 34), (D 35), (D 36), (D 37), (D 38), (D 39), (D 40), (D 41), (D 42), (D 43), (D 44), (D 45), (D 46), (D 47), (D 48), (D 49), undef, undef, undef, undef, undef, undef, undef, undef, undef, undef]).toArray, []⟩ ∧ At w0 w h_8 ∧ K x55) H (fun hb_2 H => ?_) (fun hb_2 H => ?_) ?_
              · refine ls_p (d := some 51) (by kernel_rfl) (by rw [hb_2]; kernel_rfl) (p_off Try.underlying39 rfl (fun w => ⟨_, Try.sizeOf3 w⟩) rfl (by kernel_rfl) H) (fun x51 H => ?_)
                refine ls_y (d := some 52) (by kernel_rfl) (by rw [hb_2]; kernel_rfl) HA_8 (y_ld Try.isAgg3 (by kernel_rfl) H) (fun x52 H => ?_)
                refine ls_move (x := x10) (by rw [hb_2]; kernel_rfl) (by kernel_rfl) ?_
                refine ls_fr (b := ⟨([x0, x1, x2, undef, undef, undef, (D 0), x17, x19, x25, x10, x11, x12, x47, x0, x15, x16, x17, x17, x19, x19, x21, x2, x23, x17, x25, x11, x1, x28, x29, (D 7), (D 8), x19, x11, x11, x35, x36, x37, x38, x19, x40, x25, x42, x45, x19, x45, x46, x47, x47, x49] ++ [x49, x51, x52, x10, (D 31), (D 32), (D 33), (D 34), (D 35), (D 36), (D 37), (D 38), (D 39), (D 40), (D 41), (D 42), (D 43), (D 44), (D 45), (D 46), (D 47), (D 48), (D 49), undef, undef, undef, undef, undef, undef, undef, undef, undef, undef]).toArray, []⟩) (by kernel_rfl) ?_
                refine ls_p (d := some 54) (by kernel_rfl) (by rw [hb_2]; kernel_rfl) (p_sNe (by kernel_rfl) (by kernel_rfl) H) (fun x54 H => ?_)
                refine ls_pick_f (y := x54) (by kernel_rfl) (by rw [hb_2]; kernel_rfl) (by kernel_rfl) ?_
                refine ls_nil ?_
                refine then_normal ?_
                exact ⟨(fun i => ([x51, x52, x10, x54]).getD i undef), x54, by kernel_rfl, HA_8, H⟩
              · refine ls_skip (d := some 51) (by kernel_rfl) (by rw [hb_2]; kernel_rfl) ?_
                refine ls_skip (d := some 52) (by kernel_rfl) (by rw [hb_2]; kernel_rfl) ?_
                refine ls_skip (d := some 53) (by kernel_rfl) (by rw [hb_2]; kernel_rfl) ?_
                refine ls_fr (b := ⟨([x0, x1, x2, undef, undef, undef, (D 0), x17, x19, x25, x10, x11, x12, x47, x0, x15, x16, x17, x17, x19, x19, x21, x2, x23, x17, x25, x11, x1, x28, x29, (D 7), (D 8), x19, x11, x11, x35, x36, x37, x38, x19, x40, x25, x42, x45, x19, x45, x46, x47, x47, x49] ++ [x49, undef, undef, undef, (D 31), (D 32), (D 33), (D 34), (D 35), (D 36), (D 37), (D 38), (D 39), (D 40), (D 41), (D 42), (D 43), (D 44), (D 45), (D 46), (D 47), (D 48), (D 49), undef, undef, undef, undef, undef, undef, undef, undef, undef, undef]).toArray, []⟩) (by kernel_rfl) ?_
                refine ls_skip (d := some 54) (by kernel_rfl) (by rw [hb_2]; kernel_rfl) ?_
                refine ls_pick_t (x := (.bool true)) (by kernel_rfl) (by rw [hb_2]; kernel_rfl) (by kernel_rfl) ?_
                refine ls_nil ?_
                refine then_normal ?_
                exact ⟨(fun i => ([undef, undef, undef, undef]).getD i undef), (.bool true), by kernel_rfl, HA_8, H⟩
              · rintro _ w_9 ⟨D_2, x55, rfl, HA_9, H⟩
                refine ls_move (x := x55) (by kernel_rfl) (by kernel_rfl) ?_
                refine ls_or [(), (), (), (), ()] (fun K a w => ∃ (D_3 : Nat → Value) (x61 : Value), a = ⟨([x0, x1, x2, undef, undef, undef, (D 0), x17, x19, x25, x10, x11, x12, x47, x0, x15, x16, x17, x17, x19, x19, x21, x2, x23, x17, x25, x11, x1, x28, x29, (D 7), (D 8), x19, x11, x11, x35, x36, x37, x38, x19, x40, x25, x42, x45, x19, x45, x46, x47, x47, x49] ++ [x49, (D_2 0), (D_2 1), (D_2 2), (D_2 3), x55, x55, (D_3 0), (D_3 1), (D_3 2), (D_3 3), x61, (D 39), (D 40), (D 41), (D 42), (D 43), (D 44), (D 45), (D 46), (D 47), (D 48), (D 49), undef, undef, undef, undef, undef, undef, undef, undef, undef, undef]).toArray, []⟩ ∧ At w0 w h_8 ∧ K x61) H (fun hb_1 H => ?_) (fun hb_1 H => ?_) ?_
                · refine ls_p (d := some 57) (by kernel_rfl) (by rw [hb_1]; kernel_rfl) (p_off Try.underlying39 rfl (fun w => ⟨_, Try.sizeOf37 w⟩) rfl (by kernel_rfl) H) (fun x57 H => ?_)
                  refine ls_y (d := some 58) (by kernel_rfl) (by rw [hb_1]; kernel_rfl) HA_9 (y_ld Try.isAgg37 (by kernel_rfl) H) (fun x58 H => ?_)
                  refine ls_p (d := some 59) (by kernel_rfl) (by rw [hb_1]; kernel_rfl) (p_len Try.underlying37 (by kernel_rfl) H) (fun x59 H => ?_)
                  refine ls_p (d := some 60) (by kernel_rfl) (by rw [hb_1]; kernel_rfl) (p_sNe (by kernel_rfl) (by kernel_rfl) H) (fun x60 H => ?_)
                  refine ls_pick_f (y := x60) (by kernel_rfl) (by rw [hb_1]; kernel_rfl) (by kernel_rfl) ?_
                  refine ls_nil ?_
                  refine then_normal ?_
                  exact ⟨(fun i => ([x57, x58, x59, x60]).getD i undef), x60, by kernel_rfl, HA_9, H⟩
                · refine ls_skip (d := some 57) (by kernel_rfl) (by rw [hb_1]; kernel_rfl) ?_
                  refine ls_skip (d := some 58) (by kernel_rfl) (by rw [hb_1]; kernel_rfl) ?_
                  refine ls_skip (d := some 59) (by kernel_rfl) (by rw [hb_1]; kernel_rfl) ?_
                  refine ls_skip (d := some 60) (by kernel_rfl) (by rw [hb_1]; kernel_rfl) ?_
                  refine ls_pick_t (x := (.bool true)) (by kernel_rfl) (by rw [hb_1]; kernel_rfl) (by kernel_rfl) ?_
                  refine ls_nil ?_
                  refine then_normal ?_
                  exact ⟨(fun i => ([undef, undef, undef, undef]).getD i undef), (.bool true), by kernel_rfl, HA_9, H⟩
                · rintro _ w_10 ⟨D_3, x61, rfl, HA_10, H⟩
                  refine ls_move (x := x61) (by kernel_rfl) (by kernel_rfl) ?_
                  refine ls_or [(), (), (), (), (), (), (), ()] (fun K a w => ∃ (D_4 : Nat → Value) (x70 : Value), a = ⟨([x0, x1, x2, undef, undef, undef, (D 0), x17, x19, x25, x10, x11, x12, x47, x0, x15, x16, x17, x17, x19, x19, x21, x2, x23, x17, x25, x11, x1, x28, x29, (D 7), (D 8), x19, x11, x11, x35, x36, x37, x38, x19, x40, x25, x42, x45, x19, x45, x46, x47, x47, x49] ++ [x49, (D_2 0), (D_2 1), (D_2 2), (D_2 3), x55, x55, (D_3 0), (D_3 1), (D_3 2), (D_3 3), x61, x61, (D_4 0), (D_4 1), (D_4 2), (D_4 3), (D_4 4), (D_4 5), (D_4 6), x70, (D 48), (D 49), undef, undef, undef, undef, undef, undef, undef, undef, undef, undef]).toArray, []⟩ ∧ At w0 w h_8 ∧ K x70) H (fun hb H => ?_) (fun hb H => ?_) ?_
                  · refine ls_p (d := some 63) (by kernel_rfl) (by rw [hb]; kernel_rfl) (p_off Try.underlying39 rfl (fun w => ⟨_, Try.sizeOf37 w⟩) rfl (by kernel_rfl) H) (fun x63 H => ?_)
                    refine ls_y (d := some 64) (by kernel_rfl) (by rw [hb]; kernel_rfl) HA_10 (y_ld Try.isAgg37 (by kernel_rfl) H) (fun x64 H => ?_)
                    refine ls_p (d := some 65) (by kernel_rfl) (by rw [hb]; kernel_rfl) (p_ixs Try.underlying37 Try.sizeOf5 (by kernel_rfl) (by kernel_rfl) H) (fun x65 H => ?_)
                    refine ls_y (d := some 66) (by kernel_rfl) (by rw [hb]; kernel_rfl) HA_10 (y_ld Try.isAgg5 (by kernel_rfl) H) (fun x66 H => ?_)
                    refine ls_move (x := x10) (by rw [hb]; kernel_rfl) (by kernel_rfl) ?_
                    refine ls_fr (b := ⟨([x0, x1, x2, undef, undef, undef, (D 0), x17, x19, x25, x10, x11, x12, x47, x0, x15, x16, x17, x17, x19, x19, x21, x2, x23, x17, x25, x11, x1, x28, x29, (D 7), (D 8), x19, x11, x11, x35, x36, x37, x38, x19, x40, x25, x42, x45, x19, x45, x46, x47, x47, x49] ++ [x49, (D_2 0), (D_2 1), (D_2 2), (D_2 3), x55, x55, (D_3 0), (D_3 1), (D_3 2), (D_3 3), x61, x61, x63, x64, x65, x66, x10, (D 45), (D 46), (D 47), (D 48), (D 49), undef, undef, undef, undef, undef, undef, undef, undef, undef, undef]).toArray, []⟩) (by kernel_rfl) ?_
                    refine ls_p (d := some 68) (by kernel_rfl) (by rw [hb]; kernel_rfl) (p_conv Try.underlying3 Try.underlying5 (by kernel_rfl) H) (fun x68 H => ?_)
                    refine ls_p (d := some 69) (by kernel_rfl) (by rw [hb]; kernel_rfl) (p_sNe (by kernel_rfl) (by kernel_rfl) H) (fun x69 H => ?_)
                    refine ls_pick_f (y := x69) (by kernel_rfl) (by rw [hb]; kernel_rfl) (by kernel_rfl) ?_
                    refine ls_nil ?_
                    refine then_normal ?_
                    exact ⟨(fun i => ([x63, x64, x65, x66, x10, x68, x69]).getD i undef), x69, by kernel_rfl, HA_10, H⟩
                  · refine ls_skip (d := some 63) (by kernel_rfl) (by rw [hb]; kernel_rfl) ?_
                    refine ls_skip (d := some 64) (by kernel_rfl) (by rw [hb]; kernel_rfl) ?_
                    refine ls_skip (d := some 65) (by kernel_rfl) (by rw [hb]; kernel_rfl) ?_
                    refine ls_skip (d := some 66) (by kernel_rfl) (by rw [hb]; kernel_rfl) ?_
                    refine ls_skip (d := some 67) (by kernel_rfl) (by rw [hb]; kernel_rfl) ?_
                    refine ls_fr (b := ⟨([x0, x1, x2, undef, undef, undef, (D 0), x17, x19, x25, x10, x11, x12, x47, x0, x15, x16, x17, x17, x19, x19, x21, x2, x23, x17, x25, x11, x1, x28, x29, (D 7), (D 8), x19, x11, x11, x35, x36, x37, x38, x19, x40, x25, x42, x45, x19, x45, x46, x47, x47, x49] ++ [x49, (D_2 0), (D_2 1), (D_2 2), (D_2 3), x55, x55, (D_3 0), (D_3 1), (D_3 2), (D_3 3), x61, x61, undef, undef, undef, undef, undef, (D 45), (D 46), (D 47), (D 48), (D 49), undef, undef, undef, undef, undef, undef, undef, undef, undef, undef]).toArray, []⟩) (by kernel_rfl) ?_
                    refine ls_skip (d := some 68) (by kernel_rfl) (by rw [hb]; kernel_rfl) ?_
                    refine ls_skip (d := some 69) (by kernel_rfl) (by rw [hb]; kernel_rfl) ?_
                    refine ls_pick_t (x := (.bool true)) (by kernel_rfl) (by rw [hb]; kernel_rfl) (by kernel_rfl) ?_
                    refine ls_nil ?_
                    refine then_normal ?_
                    exact ⟨(fun i => ([undef, undef, undef, undef, undef, undef, undef]).getD i undef), (.bool true), by kernel_rfl, HA_10, H⟩
                  · rintro _ w_11 ⟨D_4, x70, rfl, HA_11, H⟩
                    refine ls_nil ?_
                    refine then_normal ?_
                    refine fr_eq (b := ⟨([x0, x1, x2, undef, undef, undef, (D 0), x17, x19, x25, x10, x11, x12, x47, x0, x15, x16, x17, x17, x19, x19, x21, x2, x23, x17, x25, x11, x1, x28, x29, (D 7), (D 8), x19, x11, x11, x35, x36, x37, x38, x19, x40, x25, x42, x45, x19, x45, x46, x47, x47, x49] ++ [x49, (D_2 0), (D_2 1), (D_2 2), (D_2 3), x55, x55, (D_3 0), (D_3 1), (D_3 2), (D_3 3), x61, x61, (D_4 0), (D_4 1), (D_4 2), (D_4 3), (D_4 4), (D_4 5), (D_4 6), x70, (D 48), (D 49), undef, undef, undef, undef, undef, undef, undef, undef, undef, undef]).toArray, []⟩) (by kernel_rfl) ?_
                    refine wp_if rfl H (fun H => ?_) (fun H => ?_)
                    · refine wp_seq ?_
                      refine lwp_list ?_
                      refine ls_assign (x := (.bool false)) (by kernel_rfl) (by kernel_rfl) ?_
                      refine ls_nil ?_
                      refine then_normal ?_
                      refine fr_eq (b := ⟨([x0, x1, x2, undef, undef, undef, (.bool false), x17, x19, x25, x10, x11, x12, x47, x0, x15, x16, x17, x17, x19, x19, x21, x2, x23, x17, x25, x11, x1, x28, x29, (D 7), (D 8), x19, x11, x11, x35, x36, x37, x38, x19, x40, x25, x42, x45, x19, x45, x46, x47, x47, x49] ++ [x49, (D_2 0), (D_2 1), (D_2 2), (D_2 3), x55, x55, (D_3 0), (D_3 1), (D_3 2), (D_3 3), x61, x61, (D_4 0), (D_4 1), (D_4 2), (D_4 3), (D_4 4), (D_4 5), (D_4 6), x70, (D 48), (D 49), undef, undef, undef, undef, undef, undef, undef, undef, undef, undef]).toArray, []⟩) (by kernel_rfl) ?_
                      refine wp_ret ?_
                      refine then_ret ?_
                      refine block_ret ?_
                      refine then_ret ?_
                      refine then_ret ?_
                      refine then_ret ?_
                      refine block_ret ?_
                      refine then_ret ?_
                      exact end1 (Try.results7) (by kernel_rfl) (by kernel_rfl) HA_11 H _ (.inr rfl)
                    · refine wp_skip ?_
                      refine then_normal ?_
                      refine fr_eq (b := ⟨([x0, x1, x2, undef, undef, undef, (D 0), x17, x19, x25, x10, x11, x12, x47, x0, x15, x16, x17, x17, x19, x19, x21, x2, x23, x17, x25, x11, x1, x28, x29, (D 7), (D 8), x19, x11, x11, x35, x36, x37, x38, x19, x40, x25, x42, x45, x19, x45, x46, x47, x47, x49] ++ [x49, (D_2 0), (D_2 1), (D_2 2), (D_2 3), x55, x55, (D_3 0), (D_3 1), (D_3 2), (D_3 3), x61, x61, (D_4 0), (D_4 1), (D_4 2), (D_4 3), (D_4 4), (D_4 5), (D_4 6), x70, (D 48), (D 49), undef, undef, undef, undef, undef, undef, undef, undef, undef, undef]).toArray, []⟩) (by kernel_rfl) ?_
                      refine lwp_list ?_
                      refine ls_move (x := x10) (by kernel_rfl) (by kernel_rfl) ?_
                      refine ls_p (d := some 72) (by kernel_rfl) (by kernel_rfl) (p_add (by kernel_rfl) (by kernel_rfl) H) (fun x72 H => ?_)
                      refine ls_assign (x := x72) (by kernel_rfl) (by kernel_rfl) ?_
                      refine ls_nil ?_
                      refine block_normal ?_
                      exact ⟨(fun i => ([(D 0), x12, x47, x19, x11, x11, x35, x36, x37, x38, x19, x40, x25, x42, x45, x19, x45, x46, x47, x47, x49, x49, (D_2 0), (D_2 1), (D_2 2), (D_2 3), x55, x55, (D_3 0), (D_3 1), (D_3 2), (D_3 3), x61, x61, (D_4 0), (D_4 1), (D_4 2), (D_4 3), (D_4 4), (D_4 5), (D_4 6), x70, x10, x72]).getD i undef), x72, h_8, by kernel_rfl, HA_11, H⟩
            · refine wp_skip ?_
              refine block_normal ?_
              exact ⟨(fun i => ([(D 0), (D 1), (D 2), x19, x11, x11, x35, x36, x37, x38, x19, x40, x25, x42, (D 20), (D 21), (D 22), (D 23), (D 24), (D 25), (D 26), (D 27), (D 28), (D 29), (D 30), (D 31), (D 32), (D 33), (D 34), (D 35), (D 36), (D 37), (D 38), (D 39), (D 40), (D 41), (D 42), (D 43), (D 44), (D 45), (D 46), (D 47), (D 48), (D 49)]).getD i undef), x10, h_5, by kernel_rfl, HA_5, H⟩
        · rintro _ w_2 ⟨D_1, x10_1, h_2, rfl, HA_2, H⟩
          unfold betonylaw14_IpcRound_j2 at H
          refine then_normal ?_
          refine fr_eq (b := ⟨([x0, x1, x2, undef, undef, undef, (D_1 0), x17, x19, x25, x10_1, x11, (D_1 1), (D_1 2), x0, x15, x16, x17, x17, x19, x19, x21, x2, x23, x17, x25, x11, x1, x28, x29, (D 7), (D 8), (D_1 3), (D_1 4), (D_1 5), (D_1 6), (D_1 7), (D_1 8), (D_1 9), (D_1 10), (D_1 11), (D_1 12), (D_1 13), (D_1 14), (D_1 15), (D_1 16), (D_1 17), (D_1 18), (D_1 19), (D_1 20)] ++ [(D_1 21), (D_1 22), (D_1 23), (D_1 24), (D_1 25), (D_1 26), (D_1 27), (D_1 28), (D_1 29), (D_1 30), (D_1 31), (D_1 32), (D_1 33), (D_1 34), (D_1 35), (D_1 36), (D_1 37), (D_1 38), (D_1 39), (D_1 40), (D_1 41), (D_1 42), (D_1 43), undef, undef, undef, undef, undef, undef, undef, undef, undef, undef]).toArray, []⟩) (by kernel_rfl) ?_
          refine lwp_list ?_
          refine ls_move (x := x11) (by kernel_rfl) (by kernel_rfl) ?_
          refine ls_p (d := some 31) (by kernel_rfl) (by kernel_rfl) (p_add (by kernel_rfl) (by kernel_rfl) H) (fun x31 H => ?_)
          refine ls_assign (x := x31) (by kernel_rfl) (by kernel_rfl) ?_
          refine ls_nil ?_
          exact ⟨⟨(fun i => ([(D_1 0), (D_1 1), (D_1 2), x11, x1, x28, x29, x11, x31, (D_1 3), (D_1 4), (D_1 5), (D_1 6), (D_1 7), (D_1 8), (D_1 9), (D_1 10), (D_1 11), (D_1 12), (D_1 13), (D_1 14), (D_1 15), (D_1 16), (D_1 17), (D_1 18), (D_1 19), (D_1 20), (D_1 21), (D_1 22), (D_1 23), (D_1 24), (D_1 25), (D_1 26), (D_1 27), (D_1 28), (D_1 29), (D_1 30), (D_1 31), (D_1 32), (D_1 33), (D_1 34), (D_1 35), (D_1 36), (D_1 37), (D_1 38), (D_1 39), (D_1 40), (D_1 41), (D_1 42), (D_1 43)]).getD i undef), x10_1, x31, h_2, by kernel_rfl, HA_2, H.1⟩, loop_lt HA_2.heap HA_1.heap (by kernel_rfl) (by kernel_rfl) H.2⟩
      · refine wp_exit ?_
        refine then_exit ?_
        refine then_exit ?_
        refine block_exit ?_
        refine then_normal ?_
        refine fr_eq (b := ⟨([x0, x1, x2, undef, undef, undef, (D 0), x17, x19, x25, x10, x11, (D 1), (D 2), x0, x15, x16, x17, x17, x19, x19, x21, x2, x23, x17, x25, x11, x1, x28, x29, (D 7), (D 8), (D 9), (D 10), (D 11), (D 12), (D 13), (D 14), (D 15), (D 16), (D 17), (D 18), (D 19), (D 20), (D 21), (D 22), (D 23), (D 24), (D 25), (D 26)] ++ [(D 27), (D 28), (D 29), (D 30), (D 31), (D 32), (D 33), (D 34), (D 35), (D 36), (D 37), (D 38), (D 39), (D 40), (D 41), (D 42), (D 43), (D 44), (D 45), (D 46), (D 47), (D 48), (D 49), undef, undef, undef, undef, undef, undef, undef, undef, undef, undef]).toArray, []⟩) (by kernel_rfl) ?_
        refine wp_seq ?_
        refine lwp_list ?_
        refine ls_move (x := x19) (by kernel_rfl) (by kernel_rfl) ?_
        refine ls_d (d := some 74) (by kernel_rfl) (by kernel_rfl) HA_1 (d_call (by kernel_rfl) (by kernel_rfl) H) (fun x74 h_9 w_12 H HA_12 => ?_)
        refine ls_move (x := x1) (by kernel_rfl) (by kernel_rfl) ?_
        refine ls_p (d := some 76) (by kernel_rfl) (by kernel_rfl) (p_conv Try.underlying5 Try.underlying3 (by kernel_rfl) H) (fun x76 H => ?_)
        refine ls_move (x := x10) (by kernel_rfl) (by kernel_rfl) ?_
        refine ls_p (d := some 78) (by kernel_rfl) (by kernel_rfl) (p_sub (by kernel_rfl) (by kernel_rfl) H) (fun x78 H => ?_)
        refine ls_fr (b := ⟨([x0, x1, x2, undef, undef, undef, (D 0), x17, x19, x25, x10, x11, (D 1), (D 2), x0, x15, x16, x17, x17, x19, x19, x21, x2, x23, x17, x25, x11, x1, x28, x29, (D 7), (D 8), (D 9), (D 10), (D 11), (D 12), (D 13), (D 14), (D 15), (D 16), (D 17), (D 18), (D 19), (D 20), (D 21), (D 22), (D 23), (D 24), (D 25), (D 26)] ++ [(D 27), (D 28), (D 29), (D 30), (D 31), (D 32), (D 33), (D 34), (D 35), (D 36), (D 37), (D 38), (D 39), (D 40), (D 41), (D 42), (D 43), (D 44), (D 45), (D 46), (D 47), (D 48), (D 49), x19, x74, x1, x76, x10, x78, undef, undef, undef, undef]).toArray, []⟩) (by kernel_rfl) ?_
        refine ls_p (d := some 79) (by kernel_rfl) (by kernel_rfl) (p_sEq (by kernel_rfl) (by kernel_rfl) H) (fun x79 H => ?_)
        refine ls_move (x := x79) (by kernel_rfl) (by kernel_rfl) ?_
        refine ls_andh [(), ()] (fun K a w => ∃ (D_5 : Nat → Value) (x82 : Value) (h_10 : Heap), a = ⟨([x0, x1, x2, undef, undef, undef, (D 0), x17, x19, x25, x10, x11, (D 1), (D 2), x0, x15, x16, x17, x17, x19, x19, x21, x2, x23, x17, x25, x11, x1, x28, x29, (D 7), (D 8), (D 9), (D 10), (D 11), (D 12), (D 13), (D 14), (D 15), (D 16), (D 17), (D 18), (D 19), (D 20), (D 21), (D 22), (D 23), (D 24), (D 25), (D 26)] ++ [(D 27), (D 28), (D 29), (D 30), (D 31), (D 32), (D 33), (D 34), (D 35), (D 36), (D 37), (D 38), (D 39), (D 40), (D 41), (D 42), (D 43), (D 44), (D 45), (D 46), (D 47), (D 48), (D 49), x19, x74, x1, x76, x10, x78, x79, x79, (D_5 0), x82]).toArray, []⟩ ∧ At w0 w h_10 ∧ K x82 h_10) H (fun hb_3 H => ?_) (fun hb_3 H => ?_) ?_
        · refine ls_d (d := some 81) (by kernel_rfl) (by rw [hb_3]; kernel_rfl) HA_12 (d_call (by kernel_rfl) (by kernel_rfl) H) (fun x81 h_11 w_14 H HA_14 => ?_)
          refine ls_pick_t (x := x81) (by kernel_rfl) (by rw [hb_3]; kernel_rfl) (by kernel_rfl) ?_
          refine ls_nil ?_
          refine then_normal ?_
          exact ⟨(fun i => ([x81]).getD i undef), x81, h_11, by kernel_rfl, HA_14, H⟩
        · refine ls_skip (d := some 81) (by kernel_rfl) (by rw [hb_3]; kernel_rfl) ?_
          refine ls_pick_f (y := (.bool false)) (by kernel_rfl) (by rw [hb_3]; kernel_rfl) (by kernel_rfl) ?_
          refine ls_nil ?_
          refine then_normal ?_
          exact ⟨(fun i => ([undef]).getD i undef), (.bool false), h_9, by kernel_rfl, HA_12, H⟩
        · rintro _ w_13 ⟨D_5, x82, h_10, rfl, HA_13, H⟩
          refine ls_assign (x := x82) (by kernel_rfl) (by kernel_rfl) ?_
          refine ls_nil ?_
          refine then_normal ?_
          refine fr_eq (b := ⟨([x0, x1, x2, undef, undef, undef, x82, x17, x19, x25, x10, x11, (D 1), (D 2), x0, x15, x16, x17, x17, x19, x19, x21, x2, x23, x17, x25, x11, x1, x28, x29, (D 7), (D 8), (D 9), (D 10), (D 11), (D 12), (D 13), (D 14), (D 15), (D 16), (D 17), (D 18), (D 19), (D 20), (D 21), (D 22), (D 23), (D 24), (D 25), (D 26)] ++ [(D 27), (D 28), (D 29), (D 30), (D 31), (D 32), (D 33), (D 34), (D 35), (D 36), (D 37), (D 38), (D 39), (D 40), (D 41), (D 42), (D 43), (D 44), (D 45), (D 46), (D 47), (D 48), (D 49), x19, x74, x1, x76, x10, x78, x79, x79, (D_5 0), x82]).toArray, []⟩) (by kernel_rfl) ?_
          refine wp_ret ?_
          exact end1 (Try.results7) (by kernel_rfl) (by kernel_rfl) HA_13 H _ (.inr rfl)

end Go.Proofs.Ytpgpbhbpamgboaa
