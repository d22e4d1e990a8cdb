/- The shallow reading of one function, and that the function does it. Written by a program. -/
import Derived.Test.YthhpieidlpjbmaaFnC
set_option linter.unusedVariables false
namespace Go.Proofs.Ythhpieidlpjbmaa
open Go Go.HW

def betonyref19_Bytes_j5 (next : Value → Heap → Prop) (x7 x8 x9 : Value) (h_9 : Heap) : Prop :=
  ∃ C : Heap → Prop, C h_9 ∧ (sSlit h_9 #[] [] 5 0 fun x63 h_10 => C h_10 ∧ (
  sOff x7 0 fun x64 =>
  sLdC C x64 fun x65 =>
  sApp h_10 x63 x65 #[.int .u8 0] 5 1 fun x66 h_11 => C h_11 ∧ (
  sOff x9 0 fun x67 =>
  sLdC C x67 fun x68 =>
  sApp h_11 x66 x68 #[.int .u8 0] 5 1 fun x69 h_12 => C h_12 ∧ (
  sOff x9 1 fun x70 =>
  sLdC C x70 fun x71 =>
  sBuild #[.slice none 0 0, .int .i64 0] [(0, 1, x69), (1, 1, x71)] fun x72 =>
  sStN h_12 x7 x72 2 fun h_13 => 
  sAdd .i64 x8 (.int .i64 1) fun x24 =>
  next x24 h_13))))
def betonyref19_Bytes_l6 (next : Value → Heap → Prop) (x7 x8 x9 : Value) (next1 : Value → Heap → Prop) (x10 : Value) (h_14 : Heap) : Prop :=
  sOff x9 1 fun x53 =>
  sLd h_14 x53 fun x54 =>
  sLt x10 x54 fun x55 =>
  sIf x55 (sOff x9 0 fun x58 =>
  sLd h_14 x58 fun x59 =>
  sSlit h_14 #[.int .u8 0] [(0, 1, (.int .u8 32))] 5 1 fun x60 h_15 => 
  sApp h_15 x59 x60 #[.int .u8 0] 5 1 fun x61 h_16 => 
  sOff x9 0 fun x62 =>
  sSt h_16 x62 x61 fun h_17 => 
  sAdd .i64 x10 (.int .i64 1) fun x57 =>
  next1 x57 h_17) (betonyref19_Bytes_j5 next x7 x8 x9 h_14)
def betonyref19_Bytes_j4 (next : Value → Heap → Prop) (x0 x2 x7 x8 x9 : Value) (h_6 : Heap) : Prop :=
  sIxS x2 x8 1 fun x39 =>
  sLd h_6 x39 fun x40 =>
  sEq x40 (.int .u8 9) fun x41 =>
  sAndH x41 h_6 (fun k_1 =>
  betonyref19_flag_c x0 (.int .i64 1) h_6 fun x44 h_19 => 
  k_1 x44 h_19) fun x45 h_7 =>
  sAndH x45 h_7 (fun k =>
  betonyref19_flag_c x0 (.int .i64 32) h_7 fun x48 h_18 => 
  k x48 h_18) fun x49 h_8 =>
  sIf x49 (sOff x7 1 fun x50 =>
  sLd h_8 x50 fun x51 =>
  sLoop (S := Value) (fun nxt s h => betonyref19_Bytes_l6 next x7 x8 x9 (fun x10' h => nxt x10' h) s h) x51 h_8) (betonyref19_Bytes_j5 next x7 x8 x9 h_8)
def betonyref19_Bytes_j3 (next : Value → Heap → Prop) (x0 x2 x7 x8 : Value) (h_5 : Heap) : Prop :=
  ∃ C_1 : Heap → Prop, C_1 h_5 ∧ (sOff x7 1 fun x30 =>
  sLdC C_1 x30 fun x31 =>
  sIxS x2 x8 1 fun x34 =>
  sLdC C_1 x34 fun x35 =>
  (betonyref19_Byte_c x0 x31 x35 h_5 fun x36 h_20 => 
  sNew h_20 #[.slice none 0 0, .int .i64 0] 60 fun x9_1 h_21 => C_1 h_21 ∧ (
  sStN h_21 x9_1 x36 2 fun h_22 => 
  betonyref19_Bytes_j4 next x0 x2 x7 x8 x9_1 h_22)) ∧
  (sNew h_5 #[.slice none 0 0, .int .i64 0] 60 fun x9_2 h_23 => C_1 h_23 ∧ (
  betonyref19_Byte_c x0 x31 x35 h_23 fun x36_1 h_24 => 
  sStN h_24 x9_2 x36_1 2 fun h_25 => 
  betonyref19_Bytes_j4 next x0 x2 x7 x8 x9_2 h_25)))
def betonyref19_Bytes_l2 (R : Value → Heap → Prop) (x0 x2 x6 x7 : Value) (next : Value → Heap → Prop) (x8 : Value) (h_4 : Heap) : Prop :=
  sLen x2 fun x21 =>
  sLt x8 x21 fun x22 =>
  sIf x22 (sOff x7 1 fun x25 =>
  sLd h_4 x25 fun x26 =>
  sGt x26 (.int .i64 1073741824) fun x27 =>
  sIf x27 (sOff x7 1 fun x28 =>
  sSt h_4 x28 (.int .i64 0) fun h_26 => 
  betonyref19_Bytes_j3 next x0 x2 x7 x8 h_26) (betonyref19_Bytes_j3 next x0 x2 x7 x8 h_4)) (sLdN h_4 x7 2 fun x73 =>
  sStN h_4 x6 x73 2 fun h_27 => 
  sLdN h_27 x6 2 fun r6 =>
  R r6 h_27)
def betonyref19_Bytes_j1 (R : Value → Heap → Prop) (x0 x2 x6 x1_1 : Value) (h_1 : Heap) : Prop :=
  sBuild #[.slice none 0 0, .int .i64 0] [(0, 1, (.slice none 0 0)), (1, 1, x1_1)] fun x18 =>
  sNew h_1 #[.slice none 0 0, .int .i64 0] 60 fun x7 h_2 => 
  sStN h_2 x7 x18 2 fun h_3 => 
  sLoop (S := Value) (fun nxt s h => betonyref19_Bytes_l2 R x0 x2 x6 x7 (fun x8' h => nxt x8' h) s h) (.int .i64 0) h_3
def betonyref19_Bytes_S (x0 x1 x2 : Value) (h : Heap) (R : Value → Heap → Prop) : Prop :=
  sNew h #[.slice none 0 0, .int .i64 0] 60 fun x6 h => 
  sLt x1 (.int .i64 0) fun x12 =>
  sOr x12 (fun k_2 =>
  sGt x1 (.int .i64 1073741824) fun x15 =>
  k_2 x15) fun x16 =>
  sIf x16 (betonyref19_Bytes_j1 R x0 x2 x6 (.int .i64 0) h) (betonyref19_Bytes_j1 R x0 x2 x6 x1 h)
set_option maxRecDepth 100000 in
theorem betonyref19_Bytes_runs {x0 x1 x2 : Value} {h : Heap} {R : Value → Heap → Prop} (H : betonyref19_Bytes_S x0 x1 x2 h R) : betonyref19_Bytes_c x0 x1 x2 h R := by
  unfold betonyref19_Bytes_S at H
  refine runs_of (b := ⟨([x0, x1, x2, undef, undef, undef, undef, undef, undef, undef, undef, undef, undef, undef, undef, undef, undef, undef, undef, undef, undef, undef, undef, undef, undef, undef, undef, undef, undef, undef, undef, undef, undef, undef, undef, undef, undef, undef, undef, undef, undef, undef, undef, undef, undef, undef, undef, undef, undef, undef] ++ [undef, undef, undef, undef, undef, undef, undef, undef, undef, undef, undef, undef, undef, undef, undef, undef, undef, undef, undef, undef, undef, undef, undef, undef]).toArray, []⟩) Try.call32 Try.func32 rfl (by kernel_rfl) (fun w0 HA => ?_)
  refine wp_seq ?_
  refine lwp_list ?_
  refine ls_d (d := some 6) (by kernel_rfl) (by kernel_rfl) HA (d_alloc Try.zeroValue60 H) (fun x6 h w H HA => ?_)
  refine ls_nil ?_
  refine then_normal ?_
  refine fr_eq (b := ⟨([x0, x1, x2, undef, undef, undef, x6, undef, undef, undef, undef, undef, undef, undef, undef, undef, undef, undef, undef, undef, undef, undef, undef, undef, undef, undef, undef, undef, undef, undef, undef, undef, undef, undef, undef, undef, undef, undef, undef, undef, undef, undef, undef, undef, undef, undef, undef, undef, undef, undef] ++ [undef, undef, undef, undef, undef, undef, undef, undef, undef, undef, undef, undef, undef, undef, undef, undef, undef, undef, undef, undef, undef, undef, undef, undef]).toArray, []⟩) (by kernel_rfl) ?_
  refine wp_seq ?_
  refine wp_seq ?_
  refine lwp_list ?_
  refine ls_move (x := x1) (by kernel_rfl) (by kernel_rfl) ?_
  refine ls_p (d := some 12) (by kernel_rfl) (by kernel_rfl) (p_sLt (by kernel_rfl) (by kernel_rfl) H) (fun x12 H => ?_)
  refine ls_move (x := x12) (by kernel_rfl) (by kernel_rfl) ?_
  refine ls_or [(), (), ()] (fun K a w => ∃ (D : Nat → Value) (x16 : Value), a = ⟨([x0, x1, x2, undef, undef, undef, x6, undef, undef, undef, undef, x1, x12, x12, (D 0), (D 1), x16, undef, undef, undef, undef, undef, undef, undef, undef, undef, undef, undef, undef, undef, undef, undef, undef, undef, undef, undef, undef, undef, undef, undef, undef, undef, undef, undef, undef, undef, undef, undef, undef, undef] ++ [undef, undef, undef, undef, undef, undef, undef, undef, undef, undef, undef, undef, undef, undef, undef, undef, undef, undef, undef, undef, undef, undef, undef, undef]).toArray, []⟩ ∧ At w0 w h ∧ K x16) H (fun hb_2 H => ?_) (fun hb_2 H => ?_) ?_
  · refine ls_move (x := x1) (by rw [hb_2]; kernel_rfl) (by kernel_rfl) ?_
    refine ls_p (d := some 15) (by kernel_rfl) (by rw [hb_2]; kernel_rfl) (p_sGt (by kernel_rfl) (by kernel_rfl) H) (fun x15 H => ?_)
    refine ls_pick_f (y := x15) (by kernel_rfl) (by rw [hb_2]; kernel_rfl) (by kernel_rfl) ?_
    refine ls_nil ?_
    refine then_normal ?_
    exact ⟨(fun i => ([x1, x15]).getD i undef), x15, by kernel_rfl, HA, H⟩
  · refine ls_skip (d := some 14) (by kernel_rfl) (by rw [hb_2]; kernel_rfl) ?_
    refine ls_skip (d := some 15) (by kernel_rfl) (by rw [hb_2]; kernel_rfl) ?_
    refine ls_pick_t (x := (.bool true)) (by kernel_rfl) (by rw [hb_2]; kernel_rfl) (by kernel_rfl) ?_
    refine ls_nil ?_
    refine then_normal ?_
    exact ⟨(fun i => ([undef, undef]).getD i undef), (.bool true), by kernel_rfl, HA, H⟩
  · rintro _ w_1 ⟨D, x16, rfl, HA_1, H⟩
    refine ls_nil ?_
    refine then_normal ?_
    refine fr_eq (b := ⟨([x0, x1, x2, undef, undef, undef, x6, undef, undef, undef, undef, x1, x12, x12, (D 0), (D 1), x16, undef, undef, undef, undef, undef, undef, undef, undef, undef, undef, undef, undef, undef, undef, undef, undef, undef, undef, undef, undef, undef, undef, undef, undef, undef, undef, undef, undef, undef, undef, undef, undef, undef] ++ [undef, undef, undef, undef, undef, undef, undef, undef, undef, undef, undef, undef, undef, undef, undef, undef, undef, undef, undef, undef, undef, undef, undef, undef]).toArray, []⟩) (by kernel_rfl) ?_
    refine wp_join (fun a w => ∃ (D_1 : Nat → Value) (x1_1 : Value) (h_1 : Heap), a = ⟨([x0, x1_1, x2, undef, undef, undef, x6, undef, undef, undef, undef, x1, x12, x12, (D 0), (D 1), x16, undef, undef, undef, undef, undef, undef, undef, undef, undef, undef, undef, undef, undef, undef, undef, undef, undef, undef, undef, undef, undef, undef, undef, undef, undef, undef, undef, undef, undef, undef, undef, undef, undef] ++ [undef, undef, undef, undef, undef, undef, undef, undef, undef, undef, undef, undef, undef, undef, undef, undef, undef, undef, undef, undef, undef, undef, undef, undef]).toArray, []⟩ ∧ At w0 w h_1 ∧ betonyref19_Bytes_j1 R x0 x2 x6 x1_1 h_1) ?_ ?_
    · refine wp_if rfl H (fun H => ?_) (fun H => ?_)
      · refine lwp_list ?_
        refine ls_assign (x := (.int .i64 0)) (by kernel_rfl) (by kernel_rfl) ?_
        refine ls_nil ?_
        exact ⟨(fun i => ([]).getD i undef), (.int .i64 0), h, by kernel_rfl, HA_1, H⟩
      · refine wp_skip ?_
        exact ⟨(fun i => ([]).getD i undef), x1, h, by kernel_rfl, HA_1, H⟩
    · rintro _ w_2 ⟨D_1, x1_1, h_1, rfl, HA_2, H⟩
      unfold betonyref19_Bytes_j1 at H
      refine then_normal ?_
      refine fr_eq (b := ⟨([x0, x1_1, x2, undef, undef, undef, x6, undef, undef, undef, undef, x1, x12, x12, (D 0), (D 1), x16, undef, undef, undef, undef, undef, undef, undef, undef, undef, undef, undef, undef, undef, undef, undef, undef, undef, undef, undef, undef, undef, undef, undef, undef, undef, undef, undef, undef, undef, undef, undef, undef, undef] ++ [undef, undef, undef, undef, undef, undef, undef, undef, undef, undef, undef, undef, undef, undef, undef, undef, undef, undef, undef, undef, undef, undef, undef, undef]).toArray, []⟩) (by kernel_rfl) ?_
      refine wp_seq ?_
      refine lwp_list ?_
      refine ls_move (x := x1_1) (by kernel_rfl) (by kernel_rfl) ?_
      refine ls_p (d := some 18) (by kernel_rfl) (by kernel_rfl) (p_lit (pl := [(0, 1), (1, 1)]) Try.zeroValue60 Try.underlying60 ⟨(by kernel_rfl), Try.sizeOf56, (by kernel_rfl), Try.sizeOf3, trivial⟩ (by kernel_rfl) (by kernel_rfl) H) (fun x18 H => ?_)
      refine ls_d (d := some 7) (by kernel_rfl) (by kernel_rfl) HA_2 (d_alloc Try.zeroValue60 H) (fun x7 h_2 w_3 H HA_3 => ?_)
      refine ls_d (d := none) (by kernel_rfl) (by kernel_rfl) HA_3 (d_stn Try.sizeOf60 (by kernel_rfl) (by kernel_rfl) H) (fun _ h_3 w_4 H HA_4 => ?_)
      refine ls_nil ?_
      refine then_normal ?_
      refine fr_eq (b := ⟨([x0, x1_1, x2, undef, undef, undef, x6, x7, undef, undef, undef, x1, x12, x12, (D 0), (D 1), x16, x1_1, x18, undef, undef, undef, undef, undef, undef, undef, undef, undef, undef, undef, undef, undef, undef, undef, undef, undef, undef, undef, undef, undef, undef, undef, undef, undef, undef, undef, undef, undef, undef, undef] ++ [undef, undef, undef, undef, undef, undef, undef, undef, undef, undef, undef, undef, undef, undef, undef, undef, undef, undef, undef, undef, undef, undef, undef, undef]).toArray, []⟩) (by kernel_rfl) ?_
      refine wp_seq ?_
      refine wp_seq ?_
      refine lwp_list ?_
      refine ls_assign (x := (.int .i64 0)) (by kernel_rfl) (by kernel_rfl) ?_
      refine ls_nil ?_
      refine then_normal ?_
      refine fr_eq (b := ⟨([x0, x1_1, x2, undef, undef, undef, x6, x7, (.int .i64 0), undef, undef, x1, x12, x12, (D 0), (D 1), x16, x1_1, x18, undef, undef, undef, undef, undef, undef, undef, undef, undef, undef, undef, undef, undef, undef, undef, undef, undef, undef, undef, undef, undef, undef, undef, undef, undef, undef, undef, undef, undef, undef, undef] ++ [undef, undef, undef, undef, undef, undef, undef, undef, undef, undef, undef, undef, undef, undef, undef, undef, undef, undef, undef, undef, undef, undef, undef, undef]).toArray, []⟩) (by kernel_rfl) ?_
      refine wp_block ?_
      obtain ⟨I, m, H0, HB⟩ := H
      refine wp_loop (fun a w => ∃ (D_2 : Nat → Value) (x8 : Value) (h_4 : Heap), a = ⟨([x0, x1_1, x2, undef, undef, undef, x6, x7, x8, (D_2 0), (D_2 1), x1, x12, x12, (D 0), (D 1), x16, x1_1, x18, (D_2 2), (D_2 3), (D_2 4), (D_2 5), (D_2 6), (D_2 7), (D_2 8), (D_2 9), (D_2 10), (D_2 11), (D_2 12), (D_2 13), (D_2 14), (D_2 15), (D_2 16), (D_2 17), (D_2 18), (D_2 19), (D_2 20), (D_2 21), (D_2 22), (D_2 23), (D_2 24), (D_2 25), (D_2 26), (D_2 27), (D_2 28), (D_2 29), (D_2 30), (D_2 31), (D_2 32)] ++ [(D_2 33), (D_2 34), (D_2 35), (D_2 36), (D_2 37), (D_2 38), (D_2 39), (D_2 40), (D_2 41), (D_2 42), (D_2 43), (D_2 44), (D_2 45), (D_2 46), (D_2 47), (D_2 48), (D_2 49), (D_2 50), (D_2 51), (D_2 52), (D_2 53), (D_2 54), (D_2 55), undef]).toArray, []⟩ ∧ At w0 w h_4 ∧ I x8 h_4) (fun a w => m (a.tmps.getD 8 undef) w.heap) ?_ ?_
      · exact ⟨(fun i => ([undef, undef, undef, undef, undef, undef, undef, undef, undef, undef, undef, undef, undef, undef, undef, undef, undef, undef, undef, undef, undef, undef, undef, undef, undef, undef, undef, undef, undef, undef, undef, undef, undef, undef, undef, undef, undef, undef, undef, undef, undef, undef, undef, undef, undef, undef, undef, undef, undef, undef] ++ [undef, undef, undef, undef, undef, undef]).getD i undef), (.int .i64 0), h_3, by kernel_rfl, HA_4, H0⟩
      · rintro _ w_5 ⟨D_2, x8, h_4, rfl, HA_5, HI⟩
        have H : betonyref19_Bytes_l2 R x0 x2 x6 x7 (fun x8' h' => I x8' h' ∧ m x8' h' < m x8 h_4) x8 h_4 := HB x8 h_4 HI
        clear HB H0 HI
        unfold betonyref19_Bytes_l2 at H
        refine wp_seq ?_
        refine wp_seq ?_
        refine lwp_list ?_
        refine ls_move (x := x8) (by kernel_rfl) (by kernel_rfl) ?_
        refine ls_move (x := x2) (by kernel_rfl) (by kernel_rfl) ?_
        refine ls_p (d := some 21) (by kernel_rfl) (by kernel_rfl) (p_len Try.underlying56 (by kernel_rfl) H) (fun x21 H => ?_)
        refine ls_p (d := some 22) (by kernel_rfl) (by kernel_rfl) (p_sLt (by kernel_rfl) (by kernel_rfl) H) (fun x22 H => ?_)
        refine ls_nil ?_
        refine then_normal ?_
        refine fr_eq (b := ⟨([x0, x1_1, x2, undef, undef, undef, x6, x7, x8, (D_2 0), (D_2 1), x1, x12, x12, (D 0), (D 1), x16, x1_1, x18, x8, x2, x21, x22, (D_2 6), (D_2 7), (D_2 8), (D_2 9), (D_2 10), (D_2 11), (D_2 12), (D_2 13), (D_2 14), (D_2 15), (D_2 16), (D_2 17), (D_2 18), (D_2 19), (D_2 20), (D_2 21), (D_2 22), (D_2 23), (D_2 24), (D_2 25), (D_2 26), (D_2 27), (D_2 28), (D_2 29), (D_2 30), (D_2 31), (D_2 32)] ++ [(D_2 33), (D_2 34), (D_2 35), (D_2 36), (D_2 37), (D_2 38), (D_2 39), (D_2 40), (D_2 41), (D_2 42), (D_2 43), (D_2 44), (D_2 45), (D_2 46), (D_2 47), (D_2 48), (D_2 49), (D_2 50), (D_2 51), (D_2 52), (D_2 53), (D_2 54), (D_2 55), undef]).toArray, []⟩) (by kernel_rfl) ?_
        refine wp_if rfl H (fun H => ?_) (fun H => ?_)
        · refine wp_skip ?_
          refine then_normal ?_
          refine fr_eq (b := ⟨([x0, x1_1, x2, undef, undef, undef, x6, x7, x8, (D_2 0), (D_2 1), x1, x12, x12, (D 0), (D 1), x16, x1_1, x18, x8, x2, x21, x22, (D_2 6), (D_2 7), (D_2 8), (D_2 9), (D_2 10), (D_2 11), (D_2 12), (D_2 13), (D_2 14), (D_2 15), (D_2 16), (D_2 17), (D_2 18), (D_2 19), (D_2 20), (D_2 21), (D_2 22), (D_2 23), (D_2 24), (D_2 25), (D_2 26), (D_2 27), (D_2 28), (D_2 29), (D_2 30), (D_2 31), (D_2 32)] ++ [(D_2 33), (D_2 34), (D_2 35), (D_2 36), (D_2 37), (D_2 38), (D_2 39), (D_2 40), (D_2 41), (D_2 42), (D_2 43), (D_2 44), (D_2 45), (D_2 46), (D_2 47), (D_2 48), (D_2 49), (D_2 50), (D_2 51), (D_2 52), (D_2 53), (D_2 54), (D_2 55), undef]).toArray, []⟩) (by kernel_rfl) ?_
          refine wp_seq ?_
          refine wp_block ?_
          refine wp_seq ?_
          refine wp_seq ?_
          refine lwp_list ?_
          refine ls_p (d := some 25) (by kernel_rfl) (by kernel_rfl) (p_off Try.underlying60 rfl (fun w => ⟨_, Try.sizeOf3 w⟩) rfl (by kernel_rfl) H) (fun x25 H => ?_)
          refine ls_y (d := some 26) (by kernel_rfl) (by kernel_rfl) HA_5 (y_ld Try.isAgg3 (by kernel_rfl) H) (fun x26 H => ?_)
          refine ls_p (d := some 27) (by kernel_rfl) (by kernel_rfl) (p_sGt (by kernel_rfl) (by kernel_rfl) H) (fun x27 H => ?_)
          refine ls_nil ?_
          refine then_normal ?_
          refine fr_eq (b := ⟨([x0, x1_1, x2, undef, undef, undef, x6, x7, x8, (D_2 0), (D_2 1), x1, x12, x12, (D 0), (D 1), x16, x1_1, x18, x8, x2, x21, x22, (D_2 6), (D_2 7), x25, x26, x27, (D_2 11), (D_2 12), (D_2 13), (D_2 14), (D_2 15), (D_2 16), (D_2 17), (D_2 18), (D_2 19), (D_2 20), (D_2 21), (D_2 22), (D_2 23), (D_2 24), (D_2 25), (D_2 26), (D_2 27), (D_2 28), (D_2 29), (D_2 30), (D_2 31), (D_2 32)] ++ [(D_2 33), (D_2 34), (D_2 35), (D_2 36), (D_2 37), (D_2 38), (D_2 39), (D_2 40), (D_2 41), (D_2 42), (D_2 43), (D_2 44), (D_2 45), (D_2 46), (D_2 47), (D_2 48), (D_2 49), (D_2 50), (D_2 51), (D_2 52), (D_2 53), (D_2 54), (D_2 55), undef]).toArray, []⟩) (by kernel_rfl) ?_
          refine wp_join (fun a w => ∃ (D_3 : Nat → Value) (h_5 : Heap), a = ⟨([x0, x1_1, x2, undef, undef, undef, x6, x7, x8, (D_2 0), (D_2 1), x1, x12, x12, (D 0), (D 1), x16, x1_1, x18, x8, x2, x21, x22, (D_2 6), (D_2 7), x25, x26, x27, (D_3 0), (D_2 12), (D_2 13), (D_2 14), (D_2 15), (D_2 16), (D_2 17), (D_2 18), (D_2 19), (D_2 20), (D_2 21), (D_2 22), (D_2 23), (D_2 24), (D_2 25), (D_2 26), (D_2 27), (D_2 28), (D_2 29), (D_2 30), (D_2 31), (D_2 32)] ++ [(D_2 33), (D_2 34), (D_2 35), (D_2 36), (D_2 37), (D_2 38), (D_2 39), (D_2 40), (D_2 41), (D_2 42), (D_2 43), (D_2 44), (D_2 45), (D_2 46), (D_2 47), (D_2 48), (D_2 49), (D_2 50), (D_2 51), (D_2 52), (D_2 53), (D_2 54), (D_2 55), undef]).toArray, []⟩ ∧ At w0 w h_5 ∧ betonyref19_Bytes_j3 (fun x8' h' => I x8' h' ∧ m x8' h' < m x8 h_4) x0 x2 x7 x8 h_5) ?_ ?_
          · refine wp_if rfl H (fun H => ?_) (fun H => ?_)
            · refine lwp_list ?_
              refine ls_p (d := some 28) (by kernel_rfl) (by kernel_rfl) (p_off Try.underlying60 rfl (fun w => ⟨_, Try.sizeOf3 w⟩) rfl (by kernel_rfl) H) (fun x28 H => ?_)
              refine ls_d (d := none) (by kernel_rfl) (by kernel_rfl) HA_5 (d_st Try.sizeOf3 (by kernel_rfl) (by kernel_rfl) H) (fun _ h_26 w_29 H HA_29 => ?_)
              refine ls_nil ?_
              exact ⟨(fun i => ([x28]).getD i undef), h_26, by kernel_rfl, HA_29, H⟩
            · refine wp_skip ?_
              exact ⟨(fun i => ([(D_2 11)]).getD i undef), h_4, by kernel_rfl, HA_5, H⟩
          · rintro _ w_6 ⟨D_3, h_5, rfl, HA_6, H⟩
            unfold betonyref19_Bytes_j3 at H
            refine then_normal ?_
            refine fr_eq (b := ⟨([x0, x1_1, x2, undef, undef, undef, x6, x7, x8, (D_2 0), (D_2 1), x1, x12, x12, (D 0), (D 1), x16, x1_1, x18, x8, x2, x21, x22, (D_2 6), (D_2 7), x25, x26, x27, (D_3 0), (D_2 12), (D_2 13), (D_2 14), (D_2 15), (D_2 16), (D_2 17), (D_2 18), (D_2 19), (D_2 20), (D_2 21), (D_2 22), (D_2 23), (D_2 24), (D_2 25), (D_2 26), (D_2 27), (D_2 28), (D_2 29), (D_2 30), (D_2 31), (D_2 32)] ++ [(D_2 33), (D_2 34), (D_2 35), (D_2 36), (D_2 37), (D_2 38), (D_2 39), (D_2 40), (D_2 41), (D_2 42), (D_2 43), (D_2 44), (D_2 45), (D_2 46), (D_2 47), (D_2 48), (D_2 49), (D_2 50), (D_2 51), (D_2 52), (D_2 53), (D_2 54), (D_2 55), undef]).toArray, []⟩) (by kernel_rfl) ?_
            refine wp_seq ?_
            refine wp_join (fun a w => ∃ (D_4 : Nat → Value) (x9 : Value) (h_6 : Heap), a = ⟨([x0, x1_1, x2, undef, undef, undef, x6, x7, x8, x9, (D_2 1), x1, x12, x12, (D 0), (D 1), x16, x1_1, x18, x8, x2, x21, x22, (D_2 6), (D_2 7), x25, x26, x27, (D_3 0), (D_4 0), (D_4 1), (D_4 2), (D_4 3), (D_4 4), (D_4 5), (D_4 6), (D_4 7), (D_2 20), (D_2 21), (D_2 22), (D_2 23), (D_2 24), (D_2 25), (D_2 26), (D_2 27), (D_2 28), (D_2 29), (D_2 30), (D_2 31), (D_2 32)] ++ [(D_2 33), (D_2 34), (D_2 35), (D_2 36), (D_2 37), (D_2 38), (D_2 39), (D_2 40), (D_2 41), (D_2 42), (D_2 43), (D_2 44), (D_2 45), (D_2 46), (D_2 47), (D_2 48), (D_2 49), (D_2 50), (D_2 51), (D_2 52), (D_2 53), (D_2 54), (D_2 55), undef]).toArray, []⟩ ∧ At w0 w h_6 ∧ betonyref19_Bytes_j4 (fun x8' h' => I x8' h' ∧ m x8' h' < m x8 h_4) x0 x2 x7 x8 x9 h_6) ?_ ?_
            · obtain ⟨C_1, HC, H⟩ := H
              refine lwp_pl (Nat.testBit 896) (Nat.testBit 256) (Nat.testBit 59) [0, 0, 2, 0, 0, 24, 56, 127, 0, 511] (Nat.testBit 0) C_1 (.op 0 (.op 1 (.op 2 (.op 3 (.op 4 (.op 5 (.op 6 (.alt (.op 7 (.op 8 (.op 9 .done))) (.op 8 (.op 7 (.op 9 .done))))))))))) (by kernel_rfl) (by kernel_rfl) (by kernel_rfl) HA_6 HC ?_
              intro w_22 HA_22
              refine lp_al (x := x0) (d := some 29) (by kernel_rfl) rfl (by kernel_rfl) (by kernel_rfl) (al_move (by kernel_rfl)) ?_
              refine lp_p (d := some 30) (by kernel_rfl) rfl (by kernel_rfl) (by kernel_rfl) (p_off Try.underlying60 rfl (fun w => ⟨_, Try.sizeOf3 w⟩) rfl (by kernel_rfl) H) (fun x30 H => ?_)
              refine lp_f (d := some 31) (by kernel_rfl) rfl (by kernel_rfl) (by kernel_rfl) (by kernel_rfl) (by kernel_rfl) (c_ld Try.isAgg3 (by kernel_rfl) H) (fun x31 H => ?_)
              refine lp_al (x := x2) (d := some 32) (by kernel_rfl) rfl (by kernel_rfl) (by kernel_rfl) (al_move (by kernel_rfl)) ?_
              refine lp_al (x := x8) (d := some 33) (by kernel_rfl) rfl (by kernel_rfl) (by kernel_rfl) (al_move (by kernel_rfl)) ?_
              refine lp_p (d := some 34) (by kernel_rfl) rfl (by kernel_rfl) (by kernel_rfl) (p_ixs Try.underlying56 Try.sizeOf5 (by kernel_rfl) (by kernel_rfl) H) (fun x34 H => ?_)
              refine lp_fr (b := ⟨([x0, x1_1, x2, undef, undef, undef, x6, x7, x8, (D_2 0), (D_2 1), x1, x12, x12, (D 0), (D 1), x16, x1_1, x18, x8, x2, x21, x22, (D_2 6), (D_2 7), x25, x26, x27, (D_3 0), x0, x30, x31, x2, x8, x34, (D_2 18), (D_2 19), (D_2 20), (D_2 21), (D_2 22), (D_2 23), (D_2 24), (D_2 25), (D_2 26), (D_2 27), (D_2 28), (D_2 29), (D_2 30), (D_2 31), (D_2 32)] ++ [(D_2 33), (D_2 34), (D_2 35), (D_2 36), (D_2 37), (D_2 38), (D_2 39), (D_2 40), (D_2 41), (D_2 42), (D_2 43), (D_2 44), (D_2 45), (D_2 46), (D_2 47), (D_2 48), (D_2 49), (D_2 50), (D_2 51), (D_2 52), (D_2 53), (D_2 54), (D_2 55), undef]).toArray, []⟩) (by kernel_rfl) ?_
              refine lp_f (d := some 35) (by kernel_rfl) rfl (by kernel_rfl) (by kernel_rfl) (by kernel_rfl) (by kernel_rfl) (c_ld Try.isAgg5 (by kernel_rfl) H) (fun x35 H => ?_)
              obtain ⟨Ha, Hb⟩ := H
              refine lp_alt ?_ ?_
              · have H := Ha
                clear Ha Hb
                refine lp_d (d := some 36) (by kernel_rfl) rfl (by kernel_rfl) (by kernel_rfl) (by kernel_rfl) HA_22 (d_call (by kernel_rfl) (by kernel_rfl) H) (fun x36 h_20 w_23 H HA_23 => ?_)
                refine lp_dc (d := some 9) (by kernel_rfl) rfl (by kernel_rfl) (by kernel_rfl) (by kernel_rfl) HA_23 (d_alloc Try.zeroValue60 H) (fun x9_1 h_21 w_24 H HA_24 => ?_)
                refine lp_d (d := none) (by kernel_rfl) rfl (by kernel_rfl) (by kernel_rfl) (by kernel_rfl) HA_24 (d_stn Try.sizeOf60 (by kernel_rfl) (by kernel_rfl) H) (fun _ h_22 w_25 H HA_25 => ?_)
                refine lp_nil ?_
                exact ⟨(fun i => ([x0, x30, x31, x2, x8, x34, x35, x36]).getD i undef), x9_1, h_22, by kernel_rfl, HA_25, H⟩
              · have H := Hb
                clear Ha Hb
                refine lp_dc (d := some 9) (by kernel_rfl) rfl (by kernel_rfl) (by kernel_rfl) (by kernel_rfl) HA_22 (d_alloc Try.zeroValue60 H) (fun x9_2 h_23 w_26 H HA_26 => ?_)
                refine lp_d (d := some 36) (by kernel_rfl) rfl (by kernel_rfl) (by kernel_rfl) (by kernel_rfl) HA_26 (d_call (by kernel_rfl) (by kernel_rfl) H) (fun x36_1 h_24 w_27 H HA_27 => ?_)
                refine lp_d (d := none) (by kernel_rfl) rfl (by kernel_rfl) (by kernel_rfl) (by kernel_rfl) HA_27 (d_stn Try.sizeOf60 (by kernel_rfl) (by kernel_rfl) H) (fun _ h_25 w_28 H HA_28 => ?_)
                refine lp_nil ?_
                exact ⟨(fun i => ([x0, x30, x31, x2, x8, x34, x35, x36_1]).getD i undef), x9_2, h_25, by kernel_rfl, HA_28, H⟩
            · rintro _ w_7 ⟨D_4, x9, h_6, rfl, HA_7, H⟩
              unfold betonyref19_Bytes_j4 at H
              refine then_normal ?_
              refine fr_eq (b := ⟨([x0, x1_1, x2, undef, undef, undef, x6, x7, x8, x9, (D_2 1), x1, x12, x12, (D 0), (D 1), x16, x1_1, x18, x8, x2, x21, x22, (D_2 6), (D_2 7), x25, x26, x27, (D_3 0), (D_4 0), (D_4 1), (D_4 2), (D_4 3), (D_4 4), (D_4 5), (D_4 6), (D_4 7), (D_2 20), (D_2 21), (D_2 22), (D_2 23), (D_2 24), (D_2 25), (D_2 26), (D_2 27), (D_2 28), (D_2 29), (D_2 30), (D_2 31), (D_2 32)] ++ [(D_2 33), (D_2 34), (D_2 35), (D_2 36), (D_2 37), (D_2 38), (D_2 39), (D_2 40), (D_2 41), (D_2 42), (D_2 43), (D_2 44), (D_2 45), (D_2 46), (D_2 47), (D_2 48), (D_2 49), (D_2 50), (D_2 51), (D_2 52), (D_2 53), (D_2 54), (D_2 55), undef]).toArray, []⟩) (by kernel_rfl) ?_
              refine wp_seq ?_
              refine wp_seq ?_
              refine lwp_list ?_
              refine ls_move (x := x2) (by kernel_rfl) (by kernel_rfl) ?_
              refine ls_move (x := x8) (by kernel_rfl) (by kernel_rfl) ?_
              refine ls_p (d := some 39) (by kernel_rfl) (by kernel_rfl) (p_ixs Try.underlying56 Try.sizeOf5 (by kernel_rfl) (by kernel_rfl) H) (fun x39 H => ?_)
              refine ls_y (d := some 40) (by kernel_rfl) (by kernel_rfl) HA_7 (y_ld Try.isAgg5 (by kernel_rfl) H) (fun x40 H => ?_)
              refine ls_p (d := some 41) (by kernel_rfl) (by kernel_rfl) (p_sEq (by kernel_rfl) (by kernel_rfl) H) (fun x41 H => ?_)
              refine ls_move (x := x41) (by kernel_rfl) (by kernel_rfl) ?_
              refine ls_fr (b := ⟨([x0, x1_1, x2, undef, undef, undef, x6, x7, x8, x9, (D_2 1), x1, x12, x12, (D 0), (D 1), x16, x1_1, x18, x8, x2, x21, x22, (D_2 6), (D_2 7), x25, x26, x27, (D_3 0), (D_4 0), (D_4 1), (D_4 2), (D_4 3), (D_4 4), (D_4 5), (D_4 6), (D_4 7), x2, x8, x39, x40, x41, x41, (D_2 26), (D_2 27), (D_2 28), (D_2 29), (D_2 30), (D_2 31), (D_2 32)] ++ [(D_2 33), (D_2 34), (D_2 35), (D_2 36), (D_2 37), (D_2 38), (D_2 39), (D_2 40), (D_2 41), (D_2 42), (D_2 43), (D_2 44), (D_2 45), (D_2 46), (D_2 47), (D_2 48), (D_2 49), (D_2 50), (D_2 51), (D_2 52), (D_2 53), (D_2 54), (D_2 55), undef]).toArray, []⟩) (by kernel_rfl) ?_
              refine ls_andh [(), (), ()] (fun K a w => ∃ (D_5 : Nat → Value) (x45 : Value) (h_7 : Heap), a = ⟨([x0, x1_1, x2, undef, undef, undef, x6, x7, x8, x9, (D_2 1), x1, x12, x12, (D 0), (D 1), x16, x1_1, x18, x8, x2, x21, x22, (D_2 6), (D_2 7), x25, x26, x27, (D_3 0), (D_4 0), (D_4 1), (D_4 2), (D_4 3), (D_4 4), (D_4 5), (D_4 6), (D_4 7), x2, x8, x39, x40, x41, x41, (D_5 0), (D_5 1), x45, (D_2 29), (D_2 30), (D_2 31), (D_2 32)] ++ [(D_2 33), (D_2 34), (D_2 35), (D_2 36), (D_2 37), (D_2 38), (D_2 39), (D_2 40), (D_2 41), (D_2 42), (D_2 43), (D_2 44), (D_2 45), (D_2 46), (D_2 47), (D_2 48), (D_2 49), (D_2 50), (D_2 51), (D_2 52), (D_2 53), (D_2 54), (D_2 55), undef]).toArray, []⟩ ∧ At w0 w h_7 ∧ K x45 h_7) H (fun hb_1 H => ?_) (fun hb_1 H => ?_) ?_
              · refine ls_move (x := x0) (by rw [hb_1]; kernel_rfl) (by kernel_rfl) ?_
                refine ls_d (d := some 44) (by kernel_rfl) (by rw [hb_1]; kernel_rfl) HA_7 (d_call (by kernel_rfl) (by kernel_rfl) H) (fun x44 h_19 w_21 H HA_21 => ?_)
                refine ls_pick_t (x := x44) (by kernel_rfl) (by rw [hb_1]; kernel_rfl) (by kernel_rfl) ?_
                refine ls_nil ?_
                refine then_normal ?_
                exact ⟨(fun i => ([x0, x44]).getD i undef), x44, h_19, by kernel_rfl, HA_21, H⟩
              · refine ls_skip (d := some 43) (by kernel_rfl) (by rw [hb_1]; kernel_rfl) ?_
                refine ls_skip (d := some 44) (by kernel_rfl) (by rw [hb_1]; kernel_rfl) ?_
                refine ls_pick_f (y := (.bool false)) (by kernel_rfl) (by rw [hb_1]; kernel_rfl) (by kernel_rfl) ?_
                refine ls_nil ?_
                refine then_normal ?_
                exact ⟨(fun i => ([undef, undef]).getD i undef), (.bool false), h_6, by kernel_rfl, HA_7, H⟩
              · rintro _ w_8 ⟨D_5, x45, h_7, rfl, HA_8, H⟩
                refine ls_move (x := x45) (by kernel_rfl) (by kernel_rfl) ?_
                refine ls_andh [(), (), ()] (fun K a w => ∃ (D_6 : Nat → Value) (x49 : Value) (h_8 : Heap), a = ⟨([x0, x1_1, x2, undef, undef, undef, x6, x7, x8, x9, (D_2 1), x1, x12, x12, (D 0), (D 1), x16, x1_1, x18, x8, x2, x21, x22, (D_2 6), (D_2 7), x25, x26, x27, (D_3 0), (D_4 0), (D_4 1), (D_4 2), (D_4 3), (D_4 4), (D_4 5), (D_4 6), (D_4 7), x2, x8, x39, x40, x41, x41, (D_5 0), (D_5 1), x45, x45, (D_6 0), (D_6 1), x49] ++ [(D_2 33), (D_2 34), (D_2 35), (D_2 36), (D_2 37), (D_2 38), (D_2 39), (D_2 40), (D_2 41), (D_2 42), (D_2 43), (D_2 44), (D_2 45), (D_2 46), (D_2 47), (D_2 48), (D_2 49), (D_2 50), (D_2 51), (D_2 52), (D_2 53), (D_2 54), (D_2 55), undef]).toArray, []⟩ ∧ At w0 w h_8 ∧ K x49 h_8) H (fun hb H => ?_) (fun hb H => ?_) ?_
                · refine ls_move (x := x0) (by rw [hb]; kernel_rfl) (by kernel_rfl) ?_
                  refine ls_d (d := some 48) (by kernel_rfl) (by rw [hb]; kernel_rfl) HA_8 (d_call (by kernel_rfl) (by kernel_rfl) H) (fun x48 h_18 w_20 H HA_20 => ?_)
                  refine ls_pick_t (x := x48) (by kernel_rfl) (by rw [hb]; kernel_rfl) (by kernel_rfl) ?_
                  refine ls_nil ?_
                  refine then_normal ?_
                  exact ⟨(fun i => ([x0, x48]).getD i undef), x48, h_18, by kernel_rfl, HA_20, H⟩
                · refine ls_skip (d := some 47) (by kernel_rfl) (by rw [hb]; kernel_rfl) ?_
                  refine ls_skip (d := some 48) (by kernel_rfl) (by rw [hb]; kernel_rfl) ?_
                  refine ls_pick_f (y := (.bool false)) (by kernel_rfl) (by rw [hb]; kernel_rfl) (by kernel_rfl) ?_
                  refine ls_nil ?_
                  refine then_normal ?_
                  exact ⟨(fun i => ([undef, undef]).getD i undef), (.bool false), h_7, by kernel_rfl, HA_8, H⟩
                · rintro _ w_9 ⟨D_6, x49, h_8, rfl, HA_9, H⟩
                  refine ls_nil ?_
                  refine then_normal ?_
                  refine fr_eq (b := ⟨([x0, x1_1, x2, undef, undef, undef, x6, x7, x8, x9, (D_2 1), x1, x12, x12, (D 0), (D 1), x16, x1_1, x18, x8, x2, x21, x22, (D_2 6), (D_2 7), x25, x26, x27, (D_3 0), (D_4 0), (D_4 1), (D_4 2), (D_4 3), (D_4 4), (D_4 5), (D_4 6), (D_4 7), x2, x8, x39, x40, x41, x41, (D_5 0), (D_5 1), x45, x45, (D_6 0), (D_6 1), x49] ++ [(D_2 33), (D_2 34), (D_2 35), (D_2 36), (D_2 37), (D_2 38), (D_2 39), (D_2 40), (D_2 41), (D_2 42), (D_2 43), (D_2 44), (D_2 45), (D_2 46), (D_2 47), (D_2 48), (D_2 49), (D_2 50), (D_2 51), (D_2 52), (D_2 53), (D_2 54), (D_2 55), undef]).toArray, []⟩) (by kernel_rfl) ?_
                  refine wp_join (fun a w => ∃ (D_7 : Nat → Value) (h_9 : Heap), a = ⟨([x0, x1_1, x2, undef, undef, undef, x6, x7, x8, x9, (D_7 0), x1, x12, x12, (D 0), (D 1), x16, x1_1, x18, x8, x2, x21, x22, (D_2 6), (D_2 7), x25, x26, x27, (D_3 0), (D_4 0), (D_4 1), (D_4 2), (D_4 3), (D_4 4), (D_4 5), (D_4 6), (D_4 7), x2, x8, x39, x40, x41, x41, (D_5 0), (D_5 1), x45, x45, (D_6 0), (D_6 1), x49] ++ [(D_7 1), (D_7 2), (D_7 3), (D_7 4), (D_7 5), (D_7 6), (D_7 7), (D_7 8), (D_7 9), (D_7 10), (D_7 11), (D_7 12), (D_7 13), (D_2 46), (D_2 47), (D_2 48), (D_2 49), (D_2 50), (D_2 51), (D_2 52), (D_2 53), (D_2 54), (D_2 55), undef]).toArray, []⟩ ∧ At w0 w h_9 ∧ betonyref19_Bytes_j5 (fun x8' h' => I x8' h' ∧ m x8' h' < m x8 h_4) x7 x8 x9 h_9) ?_ ?_
                  · refine wp_if rfl H (fun H => ?_) (fun H => ?_)
                    · refine wp_seq ?_
                      refine lwp_list ?_
                      refine ls_p (d := some 50) (by kernel_rfl) (by kernel_rfl) (p_off Try.underlying60 rfl (fun w => ⟨_, Try.sizeOf3 w⟩) rfl (by kernel_rfl) H) (fun x50 H => ?_)
                      refine ls_y (d := some 51) (by kernel_rfl) (by kernel_rfl) HA_9 (y_ld Try.isAgg3 (by kernel_rfl) H) (fun x51 H => ?_)
                      refine ls_assign (x := x51) (by kernel_rfl) (by kernel_rfl) ?_
                      refine ls_nil ?_
                      refine then_normal ?_
                      refine fr_eq (b := ⟨([x0, x1_1, x2, undef, undef, undef, x6, x7, x8, x9, x51, x1, x12, x12, (D 0), (D 1), x16, x1_1, x18, x8, x2, x21, x22, (D_2 6), (D_2 7), x25, x26, x27, (D_3 0), (D_4 0), (D_4 1), (D_4 2), (D_4 3), (D_4 4), (D_4 5), (D_4 6), (D_4 7), x2, x8, x39, x40, x41, x41, (D_5 0), (D_5 1), x45, x45, (D_6 0), (D_6 1), x49] ++ [x50, x51, (D_2 35), (D_2 36), (D_2 37), (D_2 38), (D_2 39), (D_2 40), (D_2 41), (D_2 42), (D_2 43), (D_2 44), (D_2 45), (D_2 46), (D_2 47), (D_2 48), (D_2 49), (D_2 50), (D_2 51), (D_2 52), (D_2 53), (D_2 54), (D_2 55), undef]).toArray, []⟩) (by kernel_rfl) ?_
                      refine wp_block ?_
                      obtain ⟨I_1, m_1, H0, HB⟩ := H
                      refine wp_loop (fun a w => ∃ (D_8 : Nat → Value) (x10 : Value) (h_14 : Heap), a = ⟨([x0, x1_1, x2, undef, undef, undef, x6, x7, x8, x9, x10, x1, x12, x12, (D 0), (D 1), x16, x1_1, x18, x8, x2, x21, x22, (D_2 6), (D_2 7), x25, x26, x27, (D_3 0), (D_4 0), (D_4 1), (D_4 2), (D_4 3), (D_4 4), (D_4 5), (D_4 6), (D_4 7), x2, x8, x39, x40, x41, x41, (D_5 0), (D_5 1), x45, x45, (D_6 0), (D_6 1), x49] ++ [x50, x51, (D_8 0), (D_8 1), (D_8 2), (D_8 3), (D_8 4), (D_8 5), (D_8 6), (D_8 7), (D_8 8), (D_8 9), (D_8 10), (D_2 46), (D_2 47), (D_2 48), (D_2 49), (D_2 50), (D_2 51), (D_2 52), (D_2 53), (D_2 54), (D_2 55), undef]).toArray, []⟩ ∧ At w0 w h_14 ∧ I_1 x10 h_14) (fun a w => m_1 (a.tmps.getD 10 undef) w.heap) ?_ ?_
                      · exact ⟨(fun i => ([(D_2 35), (D_2 36), (D_2 37), (D_2 38), (D_2 39), (D_2 40), (D_2 41), (D_2 42), (D_2 43), (D_2 44), (D_2 45)]).getD i undef), x51, h_8, by kernel_rfl, HA_9, H0⟩
                      · rintro _ w_16 ⟨D_8, x10, h_14, rfl, HA_16, HI⟩
                        have H : betonyref19_Bytes_l6 (fun x8' h' => I x8' h' ∧ m x8' h' < m x8 h_4) x7 x8 x9 (fun x10' h' => I_1 x10' h' ∧ m_1 x10' h' < m_1 x10 h_14) x10 h_14 := HB x10 h_14 HI
                        clear HB H0 HI
                        unfold betonyref19_Bytes_l6 at H
                        refine wp_seq ?_
                        refine wp_seq ?_
                        refine lwp_list ?_
                        refine ls_move (x := x10) (by kernel_rfl) (by kernel_rfl) ?_
                        refine ls_p (d := some 53) (by kernel_rfl) (by kernel_rfl) (p_off Try.underlying60 rfl (fun w => ⟨_, Try.sizeOf3 w⟩) rfl (by kernel_rfl) H) (fun x53 H => ?_)
                        refine ls_y (d := some 54) (by kernel_rfl) (by kernel_rfl) HA_16 (y_ld Try.isAgg3 (by kernel_rfl) H) (fun x54 H => ?_)
                        refine ls_p (d := some 55) (by kernel_rfl) (by kernel_rfl) (p_sLt (by kernel_rfl) (by kernel_rfl) H) (fun x55 H => ?_)
                        refine ls_nil ?_
                        refine then_normal ?_
                        refine fr_eq (b := ⟨([x0, x1_1, x2, undef, undef, undef, x6, x7, x8, x9, x10, x1, x12, x12, (D 0), (D 1), x16, x1_1, x18, x8, x2, x21, x22, (D_2 6), (D_2 7), x25, x26, x27, (D_3 0), (D_4 0), (D_4 1), (D_4 2), (D_4 3), (D_4 4), (D_4 5), (D_4 6), (D_4 7), x2, x8, x39, x40, x41, x41, (D_5 0), (D_5 1), x45, x45, (D_6 0), (D_6 1), x49] ++ [x50, x51, x10, x53, x54, x55, (D_8 4), (D_8 5), (D_8 6), (D_8 7), (D_8 8), (D_8 9), (D_8 10), (D_2 46), (D_2 47), (D_2 48), (D_2 49), (D_2 50), (D_2 51), (D_2 52), (D_2 53), (D_2 54), (D_2 55), undef]).toArray, []⟩) (by kernel_rfl) ?_
                        refine wp_if rfl H (fun H => ?_) (fun H => ?_)
                        · refine wp_skip ?_
                          refine then_normal ?_
                          refine fr_eq (b := ⟨([x0, x1_1, x2, undef, undef, undef, x6, x7, x8, x9, x10, x1, x12, x12, (D 0), (D 1), x16, x1_1, x18, x8, x2, x21, x22, (D_2 6), (D_2 7), x25, x26, x27, (D_3 0), (D_4 0), (D_4 1), (D_4 2), (D_4 3), (D_4 4), (D_4 5), (D_4 6), (D_4 7), x2, x8, x39, x40, x41, x41, (D_5 0), (D_5 1), x45, x45, (D_6 0), (D_6 1), x49] ++ [x50, x51, x10, x53, x54, x55, (D_8 4), (D_8 5), (D_8 6), (D_8 7), (D_8 8), (D_8 9), (D_8 10), (D_2 46), (D_2 47), (D_2 48), (D_2 49), (D_2 50), (D_2 51), (D_2 52), (D_2 53), (D_2 54), (D_2 55), undef]).toArray, []⟩) (by kernel_rfl) ?_
                          refine wp_seq ?_
                          refine wp_block ?_
                          refine lwp_list ?_
                          refine ls_p (d := some 58) (by kernel_rfl) (by kernel_rfl) (p_off Try.underlying60 rfl (fun w => ⟨_, Try.sizeOf56 w⟩) rfl (by kernel_rfl) H) (fun x58 H => ?_)
                          refine ls_y (d := some 59) (by kernel_rfl) (by kernel_rfl) HA_16 (y_ld Try.isAgg56 (by kernel_rfl) H) (fun x59 H => ?_)
                          refine ls_d (d := some 60) (by kernel_rfl) (by kernel_rfl) HA_16 (d_slit (zc := #[.int .u8 0]) Try.underlying56 Try.sizeOf5 (by decide) (.inr ⟨by decide, _, Try.zeroValue5, (by kernel_rfl)⟩) (by kernel_rfl) (by kernel_rfl) H) (fun x60 h_15 w_17 H HA_17 => ?_)
                          refine ls_d (d := some 61) (by kernel_rfl) (by kernel_rfl) HA_17 (d_app (z := #[.int .u8 0]) Try.underlying56 Try.underlying56 (.inl ⟨_, rfl⟩) Try.typeInfo5 (by kernel_rfl) Try.sizeOf5 Try.zeroValue5 (by kernel_rfl) (by kernel_rfl) (by kernel_rfl) H) (fun x61 h_16 w_18 H HA_18 => ?_)
                          refine ls_p (d := some 62) (by kernel_rfl) (by kernel_rfl) (p_off Try.underlying60 rfl (fun w => ⟨_, Try.sizeOf56 w⟩) rfl (by kernel_rfl) H) (fun x62 H => ?_)
                          refine ls_d (d := none) (by kernel_rfl) (by kernel_rfl) HA_18 (d_st Try.sizeOf56 (by kernel_rfl) (by kernel_rfl) H) (fun _ h_17 w_19 H HA_19 => ?_)
                          refine ls_nil ?_
                          refine block_normal ?_
                          refine then_normal ?_
                          refine fr_eq (b := ⟨([x0, x1_1, x2, undef, undef, undef, x6, x7, x8, x9, x10, x1, x12, x12, (D 0), (D 1), x16, x1_1, x18, x8, x2, x21, x22, (D_2 6), (D_2 7), x25, x26, x27, (D_3 0), (D_4 0), (D_4 1), (D_4 2), (D_4 3), (D_4 4), (D_4 5), (D_4 6), (D_4 7), x2, x8, x39, x40, x41, x41, (D_5 0), (D_5 1), x45, x45, (D_6 0), (D_6 1), x49] ++ [x50, x51, x10, x53, x54, x55, (D_8 4), (D_8 5), x58, x59, x60, x61, x62, (D_2 46), (D_2 47), (D_2 48), (D_2 49), (D_2 50), (D_2 51), (D_2 52), (D_2 53), (D_2 54), (D_2 55), undef]).toArray, []⟩) (by kernel_rfl) ?_
                          refine lwp_list ?_
                          refine ls_move (x := x10) (by kernel_rfl) (by kernel_rfl) ?_
                          refine ls_p (d := some 57) (by kernel_rfl) (by kernel_rfl) (p_add (by kernel_rfl) (by kernel_rfl) H) (fun x57 H => ?_)
                          refine ls_assign (x := x57) (by kernel_rfl) (by kernel_rfl) ?_
                          refine ls_nil ?_
                          exact ⟨⟨(fun i => ([x10, x53, x54, x55, x10, x57, x58, x59, x60, x61, x62]).getD i undef), x57, h_17, by kernel_rfl, HA_19, H.1⟩, loop_lt HA_19.heap HA_16.heap (by kernel_rfl) (by kernel_rfl) H.2⟩
                        · refine wp_exit ?_
                          refine then_exit ?_
                          refine then_exit ?_
                          refine block_exit ?_
                          exact ⟨(fun i => ([x10, x50, x51, x10, x53, x54, x55, (D_8 4), (D_8 5), (D_8 6), (D_8 7), (D_8 8), (D_8 9), (D_8 10)]).getD i undef), h_14, by kernel_rfl, HA_16, H⟩
                    · refine wp_skip ?_
                      exact ⟨(fun i => ([(D_2 1), (D_2 33), (D_2 34), (D_2 35), (D_2 36), (D_2 37), (D_2 38), (D_2 39), (D_2 40), (D_2 41), (D_2 42), (D_2 43), (D_2 44), (D_2 45)]).getD i undef), h_8, by kernel_rfl, HA_9, H⟩
                  · rintro _ w_10 ⟨D_7, h_9, rfl, HA_10, H⟩
                    unfold betonyref19_Bytes_j5 at H
                    refine then_normal ?_
                    refine fr_eq (b := ⟨([x0, x1_1, x2, undef, undef, undef, x6, x7, x8, x9, (D_7 0), x1, x12, x12, (D 0), (D 1), x16, x1_1, x18, x8, x2, x21, x22, (D_2 6), (D_2 7), x25, x26, x27, (D_3 0), (D_4 0), (D_4 1), (D_4 2), (D_4 3), (D_4 4), (D_4 5), (D_4 6), (D_4 7), x2, x8, x39, x40, x41, x41, (D_5 0), (D_5 1), x45, x45, (D_6 0), (D_6 1), x49] ++ [(D_7 1), (D_7 2), (D_7 3), (D_7 4), (D_7 5), (D_7 6), (D_7 7), (D_7 8), (D_7 9), (D_7 10), (D_7 11), (D_7 12), (D_7 13), (D_2 46), (D_2 47), (D_2 48), (D_2 49), (D_2 50), (D_2 51), (D_2 52), (D_2 53), (D_2 54), (D_2 55), undef]).toArray, []⟩) (by kernel_rfl) ?_
                    obtain ⟨C, HC, H⟩ := H
                    refine lwp_mx (Nat.testBit 1097) (Nat.testBit 73) (Nat.testBit 658) [0, 0, 2, 7, 0, 16, 63, 0, 128, 511, 1023] (Nat.testBit 0) C [0, 1, 2, 3, 4, 5, 6, 7, 8, 9, 10] (by kernel_rfl) (by kernel_rfl) (by kernel_rfl) (by kernel_rfl) HA_10 HC ?_
                    intro w_11 HA_11
                    refine lm_dc (d := some 63) (by kernel_rfl) rfl (by kernel_rfl) (by kernel_rfl) (by kernel_rfl) HA_11 (d_slit (zc := #[]) Try.underlying56 Try.sizeOf5 (by decide) (.inl ⟨(by kernel_rfl), (by kernel_rfl)⟩) (by kernel_rfl) (by kernel_rfl) H) (fun x63 h_10 w_12 H HA_12 => ?_)
                    refine lm_p (d := some 64) (by kernel_rfl) rfl (by kernel_rfl) (by kernel_rfl) (p_off Try.underlying60 rfl (fun w => ⟨_, Try.sizeOf56 w⟩) rfl (by kernel_rfl) H) (fun x64 H => ?_)
                    refine lm_f (d := some 65) (by kernel_rfl) rfl (by kernel_rfl) (by kernel_rfl) (by kernel_rfl) (by kernel_rfl) (c_ld Try.isAgg56 (by kernel_rfl) H) (fun x65 H => ?_)
                    refine lm_dc (d := some 66) (by kernel_rfl) rfl (by kernel_rfl) (by kernel_rfl) (by kernel_rfl) HA_12 (d_app (z := #[.int .u8 0]) Try.underlying56 Try.underlying56 (.inl ⟨_, rfl⟩) Try.typeInfo5 (by kernel_rfl) Try.sizeOf5 Try.zeroValue5 (by kernel_rfl) (by kernel_rfl) (by kernel_rfl) H) (fun x66 h_11 w_13 H HA_13 => ?_)
                    refine lm_p (d := some 67) (by kernel_rfl) rfl (by kernel_rfl) (by kernel_rfl) (p_off Try.underlying60 rfl (fun w => ⟨_, Try.sizeOf56 w⟩) rfl (by kernel_rfl) H) (fun x67 H => ?_)
                    refine lm_f (d := some 68) (by kernel_rfl) rfl (by kernel_rfl) (by kernel_rfl) (by kernel_rfl) (by kernel_rfl) (c_ld Try.isAgg56 (by kernel_rfl) H) (fun x68 H => ?_)
                    refine lm_fr (b := ⟨([x0, x1_1, x2, undef, undef, undef, x6, x7, x8, x9, (D_7 0), x1, x12, x12, (D 0), (D 1), x16, x1_1, x18, x8, x2, x21, x22, (D_2 6), (D_2 7), x25, x26, x27, (D_3 0), (D_4 0), (D_4 1), (D_4 2), (D_4 3), (D_4 4), (D_4 5), (D_4 6), (D_4 7), x2, x8, x39, x40, x41, x41, (D_5 0), (D_5 1), x45, x45, (D_6 0), (D_6 1), x49] ++ [(D_7 1), (D_7 2), (D_7 3), (D_7 4), (D_7 5), (D_7 6), (D_7 7), (D_7 8), (D_7 9), (D_7 10), (D_7 11), (D_7 12), (D_7 13), x63, x64, x65, x66, x67, x68, (D_2 52), (D_2 53), (D_2 54), (D_2 55), undef]).toArray, []⟩) (by kernel_rfl) ?_
                    refine lm_dc (d := some 69) (by kernel_rfl) rfl (by kernel_rfl) (by kernel_rfl) (by kernel_rfl) HA_13 (d_app (z := #[.int .u8 0]) Try.underlying56 Try.underlying56 (.inl ⟨_, rfl⟩) Try.typeInfo5 (by kernel_rfl) Try.sizeOf5 Try.zeroValue5 (by kernel_rfl) (by kernel_rfl) (by kernel_rfl) H) (fun x69 h_12 w_14 H HA_14 => ?_)
                    refine lm_p (d := some 70) (by kernel_rfl) rfl (by kernel_rfl) (by kernel_rfl) (p_off Try.underlying60 rfl (fun w => ⟨_, Try.sizeOf3 w⟩) rfl (by kernel_rfl) H) (fun x70 H => ?_)
                    refine lm_f (d := some 71) (by kernel_rfl) rfl (by kernel_rfl) (by kernel_rfl) (by kernel_rfl) (by kernel_rfl) (c_ld Try.isAgg3 (by kernel_rfl) H) (fun x71 H => ?_)
                    refine lm_p (d := some 72) (by kernel_rfl) rfl (by kernel_rfl) (by kernel_rfl) (p_lit (pl := [(0, 1), (1, 1)]) Try.zeroValue60 Try.underlying60 ⟨(by kernel_rfl), Try.sizeOf56, (by kernel_rfl), Try.sizeOf3, trivial⟩ (by kernel_rfl) (by kernel_rfl) H) (fun x72 H => ?_)
                    refine lm_d (d := none) (by kernel_rfl) rfl (by kernel_rfl) (by kernel_rfl) (by kernel_rfl) HA_14 (d_stn Try.sizeOf60 (by kernel_rfl) (by kernel_rfl) H) (fun _ h_13 w_15 H HA_15 => ?_)
                    refine lm_nil ?_
                    refine block_normal ?_
                    refine then_normal ?_
                    refine fr_eq (b := ⟨([x0, x1_1, x2, undef, undef, undef, x6, x7, x8, x9, (D_7 0), x1, x12, x12, (D 0), (D 1), x16, x1_1, x18, x8, x2, x21, x22, (D_2 6), (D_2 7), x25, x26, x27, (D_3 0), (D_4 0), (D_4 1), (D_4 2), (D_4 3), (D_4 4), (D_4 5), (D_4 6), (D_4 7), x2, x8, x39, x40, x41, x41, (D_5 0), (D_5 1), x45, x45, (D_6 0), (D_6 1), x49] ++ [(D_7 1), (D_7 2), (D_7 3), (D_7 4), (D_7 5), (D_7 6), (D_7 7), (D_7 8), (D_7 9), (D_7 10), (D_7 11), (D_7 12), (D_7 13), x63, x64, x65, x66, x67, x68, x69, x70, x71, x72, undef]).toArray, []⟩) (by kernel_rfl) ?_
                    refine lwp_list ?_
                    refine ls_move (x := x8) (by kernel_rfl) (by kernel_rfl) ?_
                    refine ls_p (d := some 24) (by kernel_rfl) (by kernel_rfl) (p_add (by kernel_rfl) (by kernel_rfl) H) (fun x24 H => ?_)
                    refine ls_assign (x := x24) (by kernel_rfl) (by kernel_rfl) ?_
                    refine ls_nil ?_
                    exact ⟨⟨(fun i => ([x9, (D_7 0), x8, x2, x21, x22, x8, x24, x25, x26, x27, (D_3 0), (D_4 0), (D_4 1), (D_4 2), (D_4 3), (D_4 4), (D_4 5), (D_4 6), (D_4 7), x2, x8, x39, x40, x41, x41, (D_5 0), (D_5 1), x45, x45, (D_6 0), (D_6 1), x49, (D_7 1), (D_7 2), (D_7 3), (D_7 4), (D_7 5), (D_7 6), (D_7 7), (D_7 8), (D_7 9), (D_7 10), (D_7 11), (D_7 12), (D_7 13), x63, x64, x65, x66] ++ [x67, x68, x69, x70, x71, x72]).getD i undef), x24, h_13, by kernel_rfl, HA_15, H.1⟩, loop_lt HA_15.heap HA_5.heap (by kernel_rfl) (by kernel_rfl) H.2⟩
        · refine wp_exit ?_
          refine then_exit ?_
          refine then_exit ?_
          refine block_exit ?_
          refine then_normal ?_
          refine fr_eq (b := ⟨([x0, x1_1, x2, undef, undef, undef, x6, x7, x8, (D_2 0), (D_2 1), x1, x12, x12, (D 0), (D 1), x16, x1_1, x18, x8, x2, x21, x22, (D_2 6), (D_2 7), (D_2 8), (D_2 9), (D_2 10), (D_2 11), (D_2 12), (D_2 13), (D_2 14), (D_2 15), (D_2 16), (D_2 17), (D_2 18), (D_2 19), (D_2 20), (D_2 21), (D_2 22), (D_2 23), (D_2 24), (D_2 25), (D_2 26), (D_2 27), (D_2 28), (D_2 29), (D_2 30), (D_2 31), (D_2 32)] ++ [(D_2 33), (D_2 34), (D_2 35), (D_2 36), (D_2 37), (D_2 38), (D_2 39), (D_2 40), (D_2 41), (D_2 42), (D_2 43), (D_2 44), (D_2 45), (D_2 46), (D_2 47), (D_2 48), (D_2 49), (D_2 50), (D_2 51), (D_2 52), (D_2 53), (D_2 54), (D_2 55), undef]).toArray, []⟩) (by kernel_rfl) ?_
          refine wp_seq ?_
          refine lwp_list ?_
          refine ls_y (d := some 73) (by kernel_rfl) (by kernel_rfl) HA_5 (y_ldn Try.isAgg60 Try.sizeOf60 (by kernel_rfl) H) (fun x73 H => ?_)
          refine ls_d (d := none) (by kernel_rfl) (by kernel_rfl) HA_5 (d_stn Try.sizeOf60 (by kernel_rfl) (by kernel_rfl) H) (fun _ h_27 w_30 H HA_30 => ?_)
          refine ls_nil ?_
          refine then_normal ?_
          refine fr_eq (b := ⟨([x0, x1_1, x2, undef, undef, undef, x6, x7, x8, (D_2 0), (D_2 1), x1, x12, x12, (D 0), (D 1), x16, x1_1, x18, x8, x2, x21, x22, (D_2 6), (D_2 7), (D_2 8), (D_2 9), (D_2 10), (D_2 11), (D_2 12), (D_2 13), (D_2 14), (D_2 15), (D_2 16), (D_2 17), (D_2 18), (D_2 19), (D_2 20), (D_2 21), (D_2 22), (D_2 23), (D_2 24), (D_2 25), (D_2 26), (D_2 27), (D_2 28), (D_2 29), (D_2 30), (D_2 31), (D_2 32)] ++ [(D_2 33), (D_2 34), (D_2 35), (D_2 36), (D_2 37), (D_2 38), (D_2 39), (D_2 40), (D_2 41), (D_2 42), (D_2 43), (D_2 44), (D_2 45), (D_2 46), (D_2 47), (D_2 48), (D_2 49), (D_2 50), (D_2 51), (D_2 52), (D_2 53), (D_2 54), (D_2 55), x73]).toArray, []⟩) (by kernel_rfl) ?_
          refine wp_ret ?_
          obtain ⟨r6, hr6, H⟩ := ld_n Try.isAgg60 Try.sizeOf60 H
          exact endR (vs := [r6]) (Try.results32) (by kernel_rfl) ⟨⟨_, (by kernel_rfl), hr6⟩, trivial⟩ HA_30 H _ (.inr rfl)

end Go.Proofs.Ythhpieidlpjbmaa
