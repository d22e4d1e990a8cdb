/- The shallow reading of one function, and that the function does it. Written by a program. -/
import Derived.Test.YthhpieidlpjbmaaFnC
set_option linter.unusedVariables false
namespace Go.Proofs.Ythhpieidlpjbmaa
open Go Go.HW

def betonyref19_Byte_j5 (R : Value → Heap → Prop) (x2_1 x6 x1_4 : Value) (h_21 : Heap) : Prop :=
  sSlit h_21 #[.int .u8 0] [(0, 1, x2_1)] 5 1 fun x95 h_22 => 
  sBuild #[.slice none 0 0, .int .i64 0] [(0, 1, x95), (1, 1, x1_4)] fun x97 =>
  sStN h_22 x6 x97 2 fun h_23 => 
  sLdN h_23 x6 2 fun r6_5 =>
  R r6_5 h_23
def betonyref19_Byte_j4 (R : Value → Heap → Prop) (x2_1 x6 x1_3 : Value) (h_20 : Heap) : Prop :=
  sGe x2_1 (.int .u8 32) fun x83 =>
  sAnd x83 (fun k_1 =>
  sLt x2_1 (.int .u8 127) fun x86 =>
  k_1 x86) fun x87 =>
  sOr x87 (fun k =>
  sGe x2_1 (.int .u8 192) fun x90 =>
  k x90) fun x91 =>
  sIf x91 (sAdd .i64 x1_3 (.int .i64 1) fun x93 =>
  betonyref19_Byte_j5 R x2_1 x6 x93 h_20) (betonyref19_Byte_j5 R x2_1 x6 x1_3 h_20)
def betonyref19_Byte_j3 (R : Value → Heap → Prop) (x2_1 x6 x1_2 : Value) (h_19 : Heap) : Prop :=
  sEq x2_1 (.int .u8 8) fun x75 =>
  sAnd x75 (fun k_2 =>
  sGt x1_2 (.int .i64 0) fun x78 =>
  k_2 x78) fun x79 =>
  sIf x79 (sSub .i64 x1_2 (.int .i64 1) fun x81 =>
  betonyref19_Byte_j4 R x2_1 x6 x81 h_19) (betonyref19_Byte_j4 R x2_1 x6 x1_2 h_19)
def betonyref19_Byte_j2 (R : Value → Heap → Prop) (x0 x1_1 x6 x2_1 : Value) (h_7 : Heap) : Prop :=
  sEq x2_1 (.int .u8 10) fun x31 =>
  sAndH x31 h_7 (fun k_7 =>
  betonyref19_flag_c x0 (.int .i64 2) h_7 fun x34 h_27 => 
  k_7 x34 h_27) fun x35 h_8 =>
  sIf x35 (sSlit h_8 #[.int .u8 0, .int .u8 0] [(0, 1, (.int .u8 13)), (1, 1, (.int .u8 10))] 5 2 fun x36 h_9 => 
  sBuild #[.slice none 0 0, .int .i64 0] [(0, 1, x36), (1, 1, (.int .i64 0))] fun x37 =>
  sStN h_9 x6 x37 2 fun h_10 => 
  sLdN h_10 x6 2 fun r6_1 =>
  R r6_1 h_10) (sEq x2_1 (.int .u8 13) fun x39 =>
  sAnd x39 (fun k_6 =>
  sEq x1_1 (.int .i64 0) fun x42 =>
  k_6 x42) fun x43 =>
  sAndH x43 h_8 (fun k_5 =>
  betonyref19_flag_c x0 (.int .i64 8) h_8 fun x46 h_26 => 
  k_5 x46 h_26) fun x47 h_11 =>
  sIf x47 (sBuild #[.slice none 0 0, .int .i64 0] [(0, 1, (.slice none 0 0)), (1, 1, (.int .i64 0))] fun x48 =>
  sStN h_11 x6 x48 2 fun h_12 => 
  sLdN h_12 x6 2 fun r6_2 =>
  R r6_2 h_12) (sEq x2_1 (.int .u8 9) fun x50 =>
  sIf x50 (sQuo .i64 x1_1 (.int .i64 8) fun x52 =>
  sAdd .i64 x52 (.int .i64 1) fun x53 =>
  sMul .i64 x53 (.int .i64 8) fun x54 =>
  betonyref19_flag_c x0 (.int .i64 32) h_11 fun x56 h_13 => 
  sNot x56 fun x57 =>
  sIf x57 (sSlit h_13 #[.int .u8 0] [(0, 1, (.int .u8 9))] 5 1 fun x58 h_14 => 
  sBuild #[.slice none 0 0, .int .i64 0] [(0, 1, x58), (1, 1, x54)] fun x60 =>
  sStN h_14 x6 x60 2 fun h_15 => 
  sLdN h_15 x6 2 fun r6_3 =>
  R r6_3 h_15) (sMk h_13 (.int .i64 0) (.int .i64 0) #[.int .u8 0] 5 1 fun x61 h_16 => 
  sBuild #[.slice none 0 0, .int .i64 0] [(0, 1, x61), (1, 1, x54)] fun x63 =>
  sStN h_16 x6 x63 2 fun h_17 => 
  sLdN h_17 x6 2 fun r6_4 =>
  R r6_4 h_17)) (sEq x2_1 (.int .u8 13) fun x65 =>
  sOrH x65 h_11 (fun k_3 =>
  sEq x2_1 (.int .u8 10) fun x68 =>
  sAndH x68 h_11 (fun k_4 =>
  betonyref19_flag_c x0 (.int .i64 16) h_11 fun x71 h_25 => 
  k_4 x71 h_25) fun x72 h_24 =>
  k_3 x72 h_24) fun x73 h_18 =>
  sIf x73 (betonyref19_Byte_j3 R x2_1 x6 (.int .i64 0) h_18) (betonyref19_Byte_j3 R x2_1 x6 x1_1 h_18))))
def betonyref19_Byte_j1 (R : Value → Heap → Prop) (x0 x2 x6 x1_1 : Value) (h_1 : Heap) : Prop :=
  betonyref19_flag_c x0 (.int .i64 1) h_1 fun x15 h_2 => 
  sNot x15 fun x16 =>
  sIf x16 (sSlit h_2 #[.int .u8 0] [(0, 1, x2)] 5 1 fun x18 h_3 => 
  betonyref19_Byte_c (.int .i64 1) x1_1 x2 h_3 fun x21 h_4 => 
  sFld x21 1 fun x22 =>
  sBuild #[.slice none 0 0, .int .i64 0] [(0, 1, x18), (1, 1, x22)] fun x23 =>
  sStN h_4 x6 x23 2 fun h_5 => 
  sLdN h_5 x6 2 fun r6 =>
  R r6 h_5) (sEq x2 (.int .u8 13) fun x25 =>
  sAndH x25 h_2 (fun k_8 =>
  betonyref19_flag_c x0 (.int .i64 4) h_2 fun x28 h_28 => 
  k_8 x28 h_28) fun x29 h_6 =>
  sIf x29 (betonyref19_Byte_j2 R x0 x1_1 x6 (.int .u8 10) h_6) (betonyref19_Byte_j2 R x0 x1_1 x6 x2 h_6))
def betonyref19_Byte_S (x0 x1 x2 : Value) (h : Heap) (R : Value → Heap → Prop) : Prop :=
  sNew h #[.slice none 0 0, .int .i64 0] 60 fun x6 h => 
  sLt x1 (.int .i64 0) fun x9 =>
  sOr x9 (fun k_9 =>
  sGt x1 (.int .i64 1073741824) fun x12 =>
  k_9 x12) fun x13 =>
  sIf x13 (betonyref19_Byte_j1 R x0 x2 x6 (.int .i64 0) h) (betonyref19_Byte_j1 R x0 x2 x6 x1 h)
set_option maxRecDepth 100000 in
theorem betonyref19_Byte_runs {x0 x1 x2 : Value} {h : Heap} {R : Value → Heap → Prop} (H : betonyref19_Byte_S x0 x1 x2 h R) : betonyref19_Byte_c x0 x1 x2 h R := by
  unfold betonyref19_Byte_S at H
  refine runs_of (b := ⟨([x0, x1, x2, undef, undef, undef, undef, undef, undef, undef, undef, undef, undef, undef, undef, undef, undef, undef, undef, undef, undef, undef, undef, undef, undef, undef, undef, undef, undef, undef, undef, undef, undef, undef, undef, undef, undef, undef, undef, undef, undef, undef, undef, undef, undef, undef, undef, undef, undef, undef] ++ [undef, undef, undef, undef, undef, undef, undef, undef, undef, undef, undef, undef, undef, undef, undef, undef, undef, undef, undef, undef, undef, undef, undef, undef, undef, undef, undef, undef, undef, undef, undef, undef, undef, undef, undef, undef, undef, undef, undef, undef, undef, undef, undef, undef, undef, undef, undef, undef]).toArray, []⟩) Try.call49 Try.func49 rfl (by kernel_rfl) (fun w0 HA => ?_)
  refine wp_seq ?_
  refine lwp_list ?_
  refine ls_d (d := some 6) (by kernel_rfl) (by kernel_rfl) HA (d_alloc Try.zeroValue60 H) (fun x6 h w H HA => ?_)
  refine ls_nil ?_
  refine then_normal ?_
  refine fr_eq (b := ⟨([x0, x1, x2, undef, undef, undef, x6, undef, undef, undef, undef, undef, undef, undef, undef, undef, undef, undef, undef, undef, undef, undef, undef, undef, undef, undef, undef, undef, undef, undef, undef, undef, undef, undef, undef, undef, undef, undef, undef, undef, undef, undef, undef, undef, undef, undef, undef, undef, undef, undef] ++ [undef, undef, undef, undef, undef, undef, undef, undef, undef, undef, undef, undef, undef, undef, undef, undef, undef, undef, undef, undef, undef, undef, undef, undef, undef, undef, undef, undef, undef, undef, undef, undef, undef, undef, undef, undef, undef, undef, undef, undef, undef, undef, undef, undef, undef, undef, undef, undef]).toArray, []⟩) (by kernel_rfl) ?_
  refine wp_seq ?_
  refine wp_seq ?_
  refine lwp_list ?_
  refine ls_move (x := x1) (by kernel_rfl) (by kernel_rfl) ?_
  refine ls_p (d := some 9) (by kernel_rfl) (by kernel_rfl) (p_sLt (by kernel_rfl) (by kernel_rfl) H) (fun x9 H => ?_)
  refine ls_move (x := x9) (by kernel_rfl) (by kernel_rfl) ?_
  refine ls_or [(), (), ()] (fun K a w => ∃ (D : Nat → Value) (x13 : Value), a = ⟨([x0, x1, x2, undef, undef, undef, x6, undef, x1, x9, x9, (D 0), (D 1), x13, undef, undef, undef, undef, undef, undef, undef, undef, undef, undef, undef, undef, undef, undef, undef, undef, undef, undef, undef, undef, undef, undef, undef, undef, undef, undef, undef, undef, undef, undef, undef, undef, undef, undef, undef, undef] ++ [undef, undef, undef, undef, undef, undef, undef, undef, undef, undef, undef, undef, undef, undef, undef, undef, undef, undef, undef, undef, undef, undef, undef, undef, undef, undef, undef, undef, undef, undef, undef, undef, undef, undef, undef, undef, undef, undef, undef, undef, undef, undef, undef, undef, undef, undef, undef, undef]).toArray, []⟩ ∧ At w0 w h ∧ K x13) H (fun hb_9 H => ?_) (fun hb_9 H => ?_) ?_
  · refine ls_move (x := x1) (by rw [hb_9]; kernel_rfl) (by kernel_rfl) ?_
    refine ls_p (d := some 12) (by kernel_rfl) (by rw [hb_9]; kernel_rfl) (p_sGt (by kernel_rfl) (by kernel_rfl) H) (fun x12 H => ?_)
    refine ls_pick_f (y := x12) (by kernel_rfl) (by rw [hb_9]; kernel_rfl) (by kernel_rfl) ?_
    refine ls_nil ?_
    refine then_normal ?_
    exact ⟨(fun i => ([x1, x12]).getD i undef), x12, by kernel_rfl, HA, H⟩
  · refine ls_skip (d := some 11) (by kernel_rfl) (by rw [hb_9]; kernel_rfl) ?_
    refine ls_skip (d := some 12) (by kernel_rfl) (by rw [hb_9]; kernel_rfl) ?_
    refine ls_pick_t (x := (.bool true)) (by kernel_rfl) (by rw [hb_9]; kernel_rfl) (by kernel_rfl) ?_
    refine ls_nil ?_
    refine then_normal ?_
    exact ⟨(fun i => ([undef, undef]).getD i undef), (.bool true), by kernel_rfl, HA, H⟩
  · rintro _ w_1 ⟨D, x13, rfl, HA_1, H⟩
    refine ls_nil ?_
    refine then_normal ?_
    refine fr_eq (b := ⟨([x0, x1, x2, undef, undef, undef, x6, undef, x1, x9, x9, (D 0), (D 1), x13, undef, undef, undef, undef, undef, undef, undef, undef, undef, undef, undef, undef, undef, undef, undef, undef, undef, undef, undef, undef, undef, undef, undef, undef, undef, undef, undef, undef, undef, undef, undef, undef, undef, undef, undef, undef] ++ [undef, undef, undef, undef, undef, undef, undef, undef, undef, undef, undef, undef, undef, undef, undef, undef, undef, undef, undef, undef, undef, undef, undef, undef, undef, undef, undef, undef, undef, undef, undef, undef, undef, undef, undef, undef, undef, undef, undef, undef, undef, undef, undef, undef, undef, undef, undef, undef]).toArray, []⟩) (by kernel_rfl) ?_
    refine wp_join (fun a w => ∃ (D_1 : Nat → Value) (x1_1 : Value) (h_1 : Heap), a = ⟨([x0, x1_1, x2, undef, undef, undef, x6, undef, x1, x9, x9, (D 0), (D 1), x13, undef, undef, undef, undef, undef, undef, undef, undef, undef, undef, undef, undef, undef, undef, undef, undef, undef, undef, undef, undef, undef, undef, undef, undef, undef, undef, undef, undef, undef, undef, undef, undef, undef, undef, undef, undef] ++ [undef, undef, undef, undef, undef, undef, undef, undef, undef, undef, undef, undef, undef, undef, undef, undef, undef, undef, undef, undef, undef, undef, undef, undef, undef, undef, undef, undef, undef, undef, undef, undef, undef, undef, undef, undef, undef, undef, undef, undef, undef, undef, undef, undef, undef, undef, undef, undef]).toArray, []⟩ ∧ At w0 w h_1 ∧ betonyref19_Byte_j1 R x0 x2 x6 x1_1 h_1) ?_ ?_
    · refine wp_if rfl H (fun H => ?_) (fun H => ?_)
      · refine lwp_list ?_
        refine ls_assign (x := (.int .i64 0)) (by kernel_rfl) (by kernel_rfl) ?_
        refine ls_nil ?_
        exact ⟨(fun i => ([]).getD i undef), (.int .i64 0), h, by kernel_rfl, HA_1, H⟩
      · refine wp_skip ?_
        exact ⟨(fun i => ([]).getD i undef), x1, h, by kernel_rfl, HA_1, H⟩
    · rintro _ w_2 ⟨D_1, x1_1, h_1, rfl, HA_2, H⟩
      unfold betonyref19_Byte_j1 at H
      refine then_normal ?_
      refine fr_eq (b := ⟨([x0, x1_1, x2, undef, undef, undef, x6, undef, x1, x9, x9, (D 0), (D 1), x13, undef, undef, undef, undef, undef, undef, undef, undef, undef, undef, undef, undef, undef, undef, undef, undef, undef, undef, undef, undef, undef, undef, undef, undef, undef, undef, undef, undef, undef, undef, undef, undef, undef, undef, undef, undef] ++ [undef, undef, undef, undef, undef, undef, undef, undef, undef, undef, undef, undef, undef, undef, undef, undef, undef, undef, undef, undef, undef, undef, undef, undef, undef, undef, undef, undef, undef, undef, undef, undef, undef, undef, undef, undef, undef, undef, undef, undef, undef, undef, undef, undef, undef, undef, undef, undef]).toArray, []⟩) (by kernel_rfl) ?_
      refine wp_seq ?_
      refine wp_seq ?_
      refine lwp_list ?_
      refine ls_move (x := x0) (by kernel_rfl) (by kernel_rfl) ?_
      refine ls_d (d := some 15) (by kernel_rfl) (by kernel_rfl) HA_2 (d_call (by kernel_rfl) (by kernel_rfl) H) (fun x15 h_2 w_3 H HA_3 => ?_)
      refine ls_p (d := some 16) (by kernel_rfl) (by kernel_rfl) (p_not (by kernel_rfl) H) (fun x16 H => ?_)
      refine ls_nil ?_
      refine then_normal ?_
      refine fr_eq (b := ⟨([x0, x1_1, x2, undef, undef, undef, x6, undef, x1, x9, x9, (D 0), (D 1), x13, x0, x15, x16, undef, undef, undef, undef, undef, undef, undef, undef, undef, undef, undef, undef, undef, undef, undef, undef, undef, undef, undef, undef, undef, undef, undef, undef, undef, undef, undef, undef, undef, undef, undef, undef, undef] ++ [undef, undef, undef, undef, undef, undef, undef, undef, undef, undef, undef, undef, undef, undef, undef, undef, undef, undef, undef, undef, undef, undef, undef, undef, undef, undef, undef, undef, undef, undef, undef, undef, undef, undef, undef, undef, undef, undef, undef, undef, undef, undef, undef, undef, undef, undef, undef, undef]).toArray, []⟩) (by kernel_rfl) ?_
      refine wp_if rfl H (fun H => ?_) (fun H => ?_)
      · refine wp_seq ?_
        refine lwp_list ?_
        refine ls_move (x := x2) (by kernel_rfl) (by kernel_rfl) ?_
        refine ls_d (d := some 18) (by kernel_rfl) (by kernel_rfl) HA_3 (d_slit (zc := #[.int .u8 0]) Try.underlying56 Try.sizeOf5 (by decide) (.inr ⟨by decide, _, Try.zeroValue5, (by kernel_rfl)⟩) (by kernel_rfl) (by kernel_rfl) H) (fun x18 h_3 w_4 H HA_4 => ?_)
        refine ls_move (x := x1_1) (by kernel_rfl) (by kernel_rfl) ?_
        refine ls_move (x := x2) (by kernel_rfl) (by kernel_rfl) ?_
        refine ls_d (d := some 21) (by kernel_rfl) (by kernel_rfl) HA_4 (d_call (by kernel_rfl) (by kernel_rfl) H) (fun x21 h_4 w_5 H HA_5 => ?_)
        refine ls_p (d := some 22) (by kernel_rfl) (by kernel_rfl) (p_fld Try.underlying60 rfl Try.isAgg3 rfl (by kernel_rfl) H) (fun x22 H => ?_)
        refine ls_fr (b := ⟨([x0, x1_1, x2, undef, undef, undef, x6, undef, x1, x9, x9, (D 0), (D 1), x13, x0, x15, x16, x2, x18, x1_1, x2, x21, x22, undef, undef, undef, undef, undef, undef, undef, undef, undef, undef, undef, undef, undef, undef, undef, undef, undef, undef, undef, undef, undef, undef, undef, undef, undef, undef, undef] ++ [undef, undef, undef, undef, undef, undef, undef, undef, undef, undef, undef, undef, undef, undef, undef, undef, undef, undef, undef, undef, undef, undef, undef, undef, undef, undef, undef, undef, undef, undef, undef, undef, undef, undef, undef, undef, undef, undef, undef, undef, undef, undef, undef, undef, undef, undef, undef, undef]).toArray, []⟩) (by kernel_rfl) ?_
        refine ls_p (d := some 23) (by kernel_rfl) (by kernel_rfl) (p_lit (pl := [(0, 1), (1, 1)]) Try.zeroValue60 Try.underlying60 ⟨(by kernel_rfl), Try.sizeOf56, (by kernel_rfl), Try.sizeOf3, trivial⟩ (by kernel_rfl) (by kernel_rfl) H) (fun x23 H => ?_)
        refine ls_d (d := none) (by kernel_rfl) (by kernel_rfl) HA_5 (d_stn Try.sizeOf60 (by kernel_rfl) (by kernel_rfl) H) (fun _ h_5 w_6 H HA_6 => ?_)
        refine ls_nil ?_
        refine then_normal ?_
        refine fr_eq (b := ⟨([x0, x1_1, x2, undef, undef, undef, x6, undef, x1, x9, x9, (D 0), (D 1), x13, x0, x15, x16, x2, x18, x1_1, x2, x21, x22, x23, undef, undef, undef, undef, undef, undef, undef, undef, undef, undef, undef, undef, undef, undef, undef, undef, undef, undef, undef, undef, undef, undef, undef, undef, undef, undef] ++ [undef, undef, undef, undef, undef, undef, undef, undef, undef, undef, undef, undef, undef, undef, undef, undef, undef, undef, undef, undef, undef, undef, undef, undef, undef, undef, undef, undef, undef, undef, undef, undef, undef, undef, undef, undef, undef, undef, undef, undef, undef, undef, undef, undef, undef, undef, undef, undef]).toArray, []⟩) (by kernel_rfl) ?_
        refine wp_ret ?_
        refine then_ret ?_
        obtain ⟨r6, hr6, H⟩ := ld_n Try.isAgg60 Try.sizeOf60 H
        exact endR (vs := [r6]) (Try.results49) (by kernel_rfl) ⟨⟨_, (by kernel_rfl), hr6⟩, trivial⟩ HA_6 H _ (.inr rfl)
      · refine wp_skip ?_
        refine then_normal ?_
        refine fr_eq (b := ⟨([x0, x1_1, x2, undef, undef, undef, x6, undef, x1, x9, x9, (D 0), (D 1), x13, x0, x15, x16, undef, undef, undef, undef, undef, undef, undef, undef, undef, undef, undef, undef, undef, undef, undef, undef, undef, undef, undef, undef, undef, undef, undef, undef, undef, undef, undef, undef, undef, undef, undef, undef, undef] ++ [undef, undef, undef, undef, undef, undef, undef, undef, undef, undef, undef, undef, undef, undef, undef, undef, undef, undef, undef, undef, undef, undef, undef, undef, undef, undef, undef, undef, undef, undef, undef, undef, undef, undef, undef, undef, undef, undef, undef, undef, undef, undef, undef, undef, undef, undef, undef, undef]).toArray, []⟩) (by kernel_rfl) ?_
        refine wp_seq ?_
        refine wp_seq ?_
        refine lwp_list ?_
        refine ls_move (x := x2) (by kernel_rfl) (by kernel_rfl) ?_
        refine ls_p (d := some 25) (by kernel_rfl) (by kernel_rfl) (p_sEq (by kernel_rfl) (by kernel_rfl) H) (fun x25 H => ?_)
        refine ls_move (x := x25) (by kernel_rfl) (by kernel_rfl) ?_
        refine ls_andh [(), (), ()] (fun K a w => ∃ (D_2 : Nat → Value) (x29 : Value) (h_6 : Heap), a = ⟨([x0, x1_1, x2, undef, undef, undef, x6, undef, x1, x9, x9, (D 0), (D 1), x13, x0, x15, x16, undef, undef, undef, undef, undef, undef, undef, x2, x25, x25, (D_2 0), (D_2 1), x29, undef, undef, undef, undef, undef, undef, undef, undef, undef, undef, undef, undef, undef, undef, undef, undef, undef, undef, undef, undef] ++ [undef, undef, undef, undef, undef, undef, undef, undef, undef, undef, undef, undef, undef, undef, undef, undef, undef, undef, undef, undef, undef, undef, undef, undef, undef, undef, undef, undef, undef, undef, undef, undef, undef, undef, undef, undef, undef, undef, undef, undef, undef, undef, undef, undef, undef, undef, undef, undef]).toArray, []⟩ ∧ At w0 w h_6 ∧ K x29 h_6) H (fun hb_8 H => ?_) (fun hb_8 H => ?_) ?_
        · refine ls_move (x := x0) (by rw [hb_8]; kernel_rfl) (by kernel_rfl) ?_
          refine ls_d (d := some 28) (by kernel_rfl) (by rw [hb_8]; kernel_rfl) HA_3 (d_call (by kernel_rfl) (by kernel_rfl) H) (fun x28 h_28 w_33 H HA_33 => ?_)
          refine ls_pick_t (x := x28) (by kernel_rfl) (by rw [hb_8]; kernel_rfl) (by kernel_rfl) ?_
          refine ls_nil ?_
          refine then_normal ?_
          exact ⟨(fun i => ([x0, x28]).getD i undef), x28, h_28, by kernel_rfl, HA_33, H⟩
        · refine ls_skip (d := some 27) (by kernel_rfl) (by rw [hb_8]; kernel_rfl) ?_
          refine ls_skip (d := some 28) (by kernel_rfl) (by rw [hb_8]; kernel_rfl) ?_
          refine ls_pick_f (y := (.bool false)) (by kernel_rfl) (by rw [hb_8]; kernel_rfl) (by kernel_rfl) ?_
          refine ls_nil ?_
          refine then_normal ?_
          exact ⟨(fun i => ([undef, undef]).getD i undef), (.bool false), h_2, by kernel_rfl, HA_3, H⟩
        · rintro _ w_7 ⟨D_2, x29, h_6, rfl, HA_7, H⟩
          refine ls_nil ?_
          refine then_normal ?_
          refine fr_eq (b := ⟨([x0, x1_1, x2, undef, undef, undef, x6, undef, x1, x9, x9, (D 0), (D 1), x13, x0, x15, x16, undef, undef, undef, undef, undef, undef, undef, x2, x25, x25, (D_2 0), (D_2 1), x29, undef, undef, undef, undef, undef, undef, undef, undef, undef, undef, undef, undef, undef, undef, undef, undef, undef, undef, undef, undef] ++ [undef, undef, undef, undef, undef, undef, undef, undef, undef, undef, undef, undef, undef, undef, undef, undef, undef, undef, undef, undef, undef, undef, undef, undef, undef, undef, undef, undef, undef, undef, undef, undef, undef, undef, undef, undef, undef, undef, undef, undef, undef, undef, undef, undef, undef, undef, undef, undef]).toArray, []⟩) (by kernel_rfl) ?_
          refine wp_join (fun a w => ∃ (D_3 : Nat → Value) (x2_1 : Value) (h_7 : Heap), a = ⟨([x0, x1_1, x2_1, undef, undef, undef, x6, undef, x1, x9, x9, (D 0), (D 1), x13, x0, x15, x16, undef, undef, undef, undef, undef, undef, undef, x2, x25, x25, (D_2 0), (D_2 1), x29, undef, undef, undef, undef, undef, undef, undef, undef, undef, undef, undef, undef, undef, undef, undef, undef, undef, undef, undef, undef] ++ [undef, undef, undef, undef, undef, undef, undef, undef, undef, undef, undef, undef, undef, undef, undef, undef, undef, undef, undef, undef, undef, undef, undef, undef, undef, undef, undef, undef, undef, undef, undef, undef, undef, undef, undef, undef, undef, undef, undef, undef, undef, undef, undef, undef, undef, undef, undef, undef]).toArray, []⟩ ∧ At w0 w h_7 ∧ betonyref19_Byte_j2 R x0 x1_1 x6 x2_1 h_7) ?_ ?_
          · refine wp_if rfl H (fun H => ?_) (fun H => ?_)
            · refine lwp_list ?_
              refine ls_assign (x := (.int .u8 10)) (by kernel_rfl) (by kernel_rfl) ?_
              refine ls_nil ?_
              exact ⟨(fun i => ([]).getD i undef), (.int .u8 10), h_6, by kernel_rfl, HA_7, H⟩
            · refine wp_skip ?_
              exact ⟨(fun i => ([]).getD i undef), x2, h_6, by kernel_rfl, HA_7, H⟩
          · rintro _ w_8 ⟨D_3, x2_1, h_7, rfl, HA_8, H⟩
            unfold betonyref19_Byte_j2 at H
            refine then_normal ?_
            refine fr_eq (b := ⟨([x0, x1_1, x2_1, undef, undef, undef, x6, undef, x1, x9, x9, (D 0), (D 1), x13, x0, x15, x16, undef, undef, undef, undef, undef, undef, undef, x2, x25, x25, (D_2 0), (D_2 1), x29, undef, undef, undef, undef, undef, undef, undef, undef, undef, undef, undef, undef, undef, undef, undef, undef, undef, undef, undef, undef] ++ [undef, undef, undef, undef, undef, undef, undef, undef, undef, undef, undef, undef, undef, undef, undef, undef, undef, undef, undef, undef, undef, undef, undef, undef, undef, undef, undef, undef, undef, undef, undef, undef, undef, undef, undef, undef, undef, undef, undef, undef, undef, undef, undef, undef, undef, undef, undef, undef]).toArray, []⟩) (by kernel_rfl) ?_
            refine wp_seq ?_
            refine wp_seq ?_
            refine lwp_list ?_
            refine ls_move (x := x2_1) (by kernel_rfl) (by kernel_rfl) ?_
            refine ls_p (d := some 31) (by kernel_rfl) (by kernel_rfl) (p_sEq (by kernel_rfl) (by kernel_rfl) H) (fun x31 H => ?_)
            refine ls_move (x := x31) (by kernel_rfl) (by kernel_rfl) ?_
            refine ls_andh [(), (), ()] (fun K a w => ∃ (D_4 : Nat → Value) (x35 : Value) (h_8 : Heap), a = ⟨([x0, x1_1, x2_1, undef, undef, undef, x6, undef, x1, x9, x9, (D 0), (D 1), x13, x0, x15, x16, undef, undef, undef, undef, undef, undef, undef, x2, x25, x25, (D_2 0), (D_2 1), x29, x2_1, x31, x31, (D_4 0), (D_4 1), x35, undef, undef, undef, undef, undef, undef, undef, undef, undef, undef, undef, undef, undef, undef] ++ [undef, undef, undef, undef, undef, undef, undef, undef, undef, undef, undef, undef, undef, undef, undef, undef, undef, undef, undef, undef, undef, undef, undef, undef, undef, undef, undef, undef, undef, undef, undef, undef, undef, undef, undef, undef, undef, undef, undef, undef, undef, undef, undef, undef, undef, undef, undef, undef]).toArray, []⟩ ∧ At w0 w h_8 ∧ K x35 h_8) H (fun hb_7 H => ?_) (fun hb_7 H => ?_) ?_
            · refine ls_move (x := x0) (by rw [hb_7]; kernel_rfl) (by kernel_rfl) ?_
              refine ls_d (d := some 34) (by kernel_rfl) (by rw [hb_7]; kernel_rfl) HA_8 (d_call (by kernel_rfl) (by kernel_rfl) H) (fun x34 h_27 w_32 H HA_32 => ?_)
              refine ls_pick_t (x := x34) (by kernel_rfl) (by rw [hb_7]; kernel_rfl) (by kernel_rfl) ?_
              refine ls_nil ?_
              refine then_normal ?_
              exact ⟨(fun i => ([x0, x34]).getD i undef), x34, h_27, by kernel_rfl, HA_32, H⟩
            · refine ls_skip (d := some 33) (by kernel_rfl) (by rw [hb_7]; kernel_rfl) ?_
              refine ls_skip (d := some 34) (by kernel_rfl) (by rw [hb_7]; kernel_rfl) ?_
              refine ls_pick_f (y := (.bool false)) (by kernel_rfl) (by rw [hb_7]; kernel_rfl) (by kernel_rfl) ?_
              refine ls_nil ?_
              refine then_normal ?_
              exact ⟨(fun i => ([undef, undef]).getD i undef), (.bool false), h_7, by kernel_rfl, HA_8, H⟩
            · rintro _ w_9 ⟨D_4, x35, h_8, rfl, HA_9, H⟩
              refine ls_nil ?_
              refine then_normal ?_
              refine fr_eq (b := ⟨([x0, x1_1, x2_1, undef, undef, undef, x6, undef, x1, x9, x9, (D 0), (D 1), x13, x0, x15, x16, undef, undef, undef, undef, undef, undef, undef, x2, x25, x25, (D_2 0), (D_2 1), x29, x2_1, x31, x31, (D_4 0), (D_4 1), x35, undef, undef, undef, undef, undef, undef, undef, undef, undef, undef, undef, undef, undef, undef] ++ [undef, undef, undef, undef, undef, undef, undef, undef, undef, undef, undef, undef, undef, undef, undef, undef, undef, undef, undef, undef, undef, undef, undef, undef, undef, undef, undef, undef, undef, undef, undef, undef, undef, undef, undef, undef, undef, undef, undef, undef, undef, undef, undef, undef, undef, undef, undef, undef]).toArray, []⟩) (by kernel_rfl) ?_
              refine wp_if rfl H (fun H => ?_) (fun H => ?_)
              · refine wp_seq ?_
                refine lwp_list ?_
                refine ls_d (d := some 36) (by kernel_rfl) (by kernel_rfl) HA_9 (d_slit (zc := #[.int .u8 0]) Try.underlying56 Try.sizeOf5 (by decide) (.inr ⟨by decide, _, Try.zeroValue5, (by kernel_rfl)⟩) (by kernel_rfl) (by kernel_rfl) H) (fun x36 h_9 w_10 H HA_10 => ?_)
                refine ls_p (d := some 37) (by kernel_rfl) (by kernel_rfl) (p_lit (pl := [(0, 1), (1, 1)]) Try.zeroValue60 Try.underlying60 ⟨(by kernel_rfl), Try.sizeOf56, (by kernel_rfl), Try.sizeOf3, trivial⟩ (by kernel_rfl) (by kernel_rfl) H) (fun x37 H => ?_)
                refine ls_d (d := none) (by kernel_rfl) (by kernel_rfl) HA_10 (d_stn Try.sizeOf60 (by kernel_rfl) (by kernel_rfl) H) (fun _ h_10 w_11 H HA_11 => ?_)
                refine ls_nil ?_
                refine then_normal ?_
                refine fr_eq (b := ⟨([x0, x1_1, x2_1, undef, undef, undef, x6, undef, x1, x9, x9, (D 0), (D 1), x13, x0, x15, x16, undef, undef, undef, undef, undef, undef, undef, x2, x25, x25, (D_2 0), (D_2 1), x29, x2_1, x31, x31, (D_4 0), (D_4 1), x35, x36, x37, undef, undef, undef, undef, undef, undef, undef, undef, undef, undef, undef, undef] ++ [undef, undef, undef, undef, undef, undef, undef, undef, undef, undef, undef, undef, undef, undef, undef, undef, undef, undef, undef, undef, undef, undef, undef, undef, undef, undef, undef, undef, undef, undef, undef, undef, undef, undef, undef, undef, undef, undef, undef, undef, undef, undef, undef, undef, undef, undef, undef, undef]).toArray, []⟩) (by kernel_rfl) ?_
                refine wp_ret ?_
                refine then_ret ?_
                obtain ⟨r6_1, hr6_1, H⟩ := ld_n Try.isAgg60 Try.sizeOf60 H
                exact endR (vs := [r6_1]) (Try.results49) (by kernel_rfl) ⟨⟨_, (by kernel_rfl), hr6_1⟩, trivial⟩ HA_11 H _ (.inr rfl)
              · refine wp_skip ?_
                refine then_normal ?_
                refine fr_eq (b := ⟨([x0, x1_1, x2_1, undef, undef, undef, x6, undef, x1, x9, x9, (D 0), (D 1), x13, x0, x15, x16, undef, undef, undef, undef, undef, undef, undef, x2, x25, x25, (D_2 0), (D_2 1), x29, x2_1, x31, x31, (D_4 0), (D_4 1), x35, undef, undef, undef, undef, undef, undef, undef, undef, undef, undef, undef, undef, undef, undef] ++ [undef, undef, undef, undef, undef, undef, undef, undef, undef, undef, undef, undef, undef, undef, undef, undef, undef, undef, undef, undef, undef, undef, undef, undef, undef, undef, undef, undef, undef, undef, undef, undef, undef, undef, undef, undef, undef, undef, undef, undef, undef, undef, undef, undef, undef, undef, undef, undef]).toArray, []⟩) (by kernel_rfl) ?_
                refine wp_seq ?_
                refine wp_seq ?_
                refine lwp_list ?_
                refine ls_move (x := x2_1) (by kernel_rfl) (by kernel_rfl) ?_
                refine ls_p (d := some 39) (by kernel_rfl) (by kernel_rfl) (p_sEq (by kernel_rfl) (by kernel_rfl) H) (fun x39 H => ?_)
                refine ls_move (x := x39) (by kernel_rfl) (by kernel_rfl) ?_
                refine ls_and [(), (), ()] (fun K a w => ∃ (D_5 : Nat → Value) (x43 : Value), a = ⟨([x0, x1_1, x2_1, undef, undef, undef, x6, undef, x1, x9, x9, (D 0), (D 1), x13, x0, x15, x16, undef, undef, undef, undef, undef, undef, undef, x2, x25, x25, (D_2 0), (D_2 1), x29, x2_1, x31, x31, (D_4 0), (D_4 1), x35, undef, undef, x2_1, x39, x39, (D_5 0), (D_5 1), x43, undef, undef, undef, undef, undef, undef] ++ [undef, undef, undef, undef, undef, undef, undef, undef, undef, undef, undef, undef, undef, undef, undef, undef, undef, undef, undef, undef, undef, undef, undef, undef, undef, undef, undef, undef, undef, undef, undef, undef, undef, undef, undef, undef, undef, undef, undef, undef, undef, undef, undef, undef, undef, undef, undef, undef]).toArray, []⟩ ∧ At w0 w h_8 ∧ K x43) H (fun hb_6 H => ?_) (fun hb_6 H => ?_) ?_
                · refine ls_move (x := x1_1) (by rw [hb_6]; kernel_rfl) (by kernel_rfl) ?_
                  refine ls_p (d := some 42) (by kernel_rfl) (by rw [hb_6]; kernel_rfl) (p_sEq (by kernel_rfl) (by kernel_rfl) H) (fun x42 H => ?_)
                  refine ls_pick_t (x := x42) (by kernel_rfl) (by rw [hb_6]; kernel_rfl) (by kernel_rfl) ?_
                  refine ls_nil ?_
                  refine then_normal ?_
                  exact ⟨(fun i => ([x1_1, x42]).getD i undef), x42, by kernel_rfl, HA_9, H⟩
                · refine ls_skip (d := some 41) (by kernel_rfl) (by rw [hb_6]; kernel_rfl) ?_
                  refine ls_skip (d := some 42) (by kernel_rfl) (by rw [hb_6]; kernel_rfl) ?_
                  refine ls_pick_f (y := (.bool false)) (by kernel_rfl) (by rw [hb_6]; kernel_rfl) (by kernel_rfl) ?_
                  refine ls_nil ?_
                  refine then_normal ?_
                  exact ⟨(fun i => ([undef, undef]).getD i undef), (.bool false), by kernel_rfl, HA_9, H⟩
                · rintro _ w_12 ⟨D_5, x43, rfl, HA_12, H⟩
                  refine ls_move (x := x43) (by kernel_rfl) (by kernel_rfl) ?_
                  refine ls_andh [(), (), ()] (fun K a w => ∃ (D_6 : Nat → Value) (x47 : Value) (h_11 : Heap), a = ⟨([x0, x1_1, x2_1, undef, undef, undef, x6, undef, x1, x9, x9, (D 0), (D 1), x13, x0, x15, x16, undef, undef, undef, undef, undef, undef, undef, x2, x25, x25, (D_2 0), (D_2 1), x29, x2_1, x31, x31, (D_4 0), (D_4 1), x35, undef, undef, x2_1, x39, x39, (D_5 0), (D_5 1), x43, x43, (D_6 0), (D_6 1), x47, undef, undef] ++ [undef, undef, undef, undef, undef, undef, undef, undef, undef, undef, undef, undef, undef, undef, undef, undef, undef, undef, undef, undef, undef, undef, undef, undef, undef, undef, undef, undef, undef, undef, undef, undef, undef, undef, undef, undef, undef, undef, undef, undef, undef, undef, undef, undef, undef, undef, undef, undef]).toArray, []⟩ ∧ At w0 w h_11 ∧ K x47 h_11) H (fun hb_5 H => ?_) (fun hb_5 H => ?_) ?_
                  · refine ls_move (x := x0) (by rw [hb_5]; kernel_rfl) (by kernel_rfl) ?_
                    refine ls_d (d := some 46) (by kernel_rfl) (by rw [hb_5]; kernel_rfl) HA_12 (d_call (by kernel_rfl) (by kernel_rfl) H) (fun x46 h_26 w_31 H HA_31 => ?_)
                    refine ls_pick_t (x := x46) (by kernel_rfl) (by rw [hb_5]; kernel_rfl) (by kernel_rfl) ?_
                    refine ls_nil ?_
                    refine then_normal ?_
                    exact ⟨(fun i => ([x0, x46]).getD i undef), x46, h_26, by kernel_rfl, HA_31, H⟩
                  · refine ls_skip (d := some 45) (by kernel_rfl) (by rw [hb_5]; kernel_rfl) ?_
                    refine ls_skip (d := some 46) (by kernel_rfl) (by rw [hb_5]; kernel_rfl) ?_
                    refine ls_pick_f (y := (.bool false)) (by kernel_rfl) (by rw [hb_5]; kernel_rfl) (by kernel_rfl) ?_
                    refine ls_nil ?_
                    refine then_normal ?_
                    exact ⟨(fun i => ([undef, undef]).getD i undef), (.bool false), h_8, by kernel_rfl, HA_12, H⟩
                  · rintro _ w_13 ⟨D_6, x47, h_11, rfl, HA_13, H⟩
                    refine ls_nil ?_
                    refine then_normal ?_
                    refine fr_eq (b := ⟨([x0, x1_1, x2_1, undef, undef, undef, x6, undef, x1, x9, x9, (D 0), (D 1), x13, x0, x15, x16, undef, undef, undef, undef, undef, undef, undef, x2, x25, x25, (D_2 0), (D_2 1), x29, x2_1, x31, x31, (D_4 0), (D_4 1), x35, undef, undef, x2_1, x39, x39, (D_5 0), (D_5 1), x43, x43, (D_6 0), (D_6 1), x47, undef, undef] ++ [undef, undef, undef, undef, undef, undef, undef, undef, undef, undef, undef, undef, undef, undef, undef, undef, undef, undef, undef, undef, undef, undef, undef, undef, undef, undef, undef, undef, undef, undef, undef, undef, undef, undef, undef, undef, undef, undef, undef, undef, undef, undef, undef, undef, undef, undef, undef, undef]).toArray, []⟩) (by kernel_rfl) ?_
                    refine wp_if rfl H (fun H => ?_) (fun H => ?_)
                    · refine wp_seq ?_
                      refine lwp_list ?_
                      refine ls_p (d := some 48) (by kernel_rfl) (by kernel_rfl) (p_lit (pl := [(0, 1), (1, 1)]) Try.zeroValue60 Try.underlying60 ⟨(by kernel_rfl), Try.sizeOf56, (by kernel_rfl), Try.sizeOf3, trivial⟩ (by kernel_rfl) (by kernel_rfl) H) (fun x48 H => ?_)
                      refine ls_d (d := none) (by kernel_rfl) (by kernel_rfl) HA_13 (d_stn Try.sizeOf60 (by kernel_rfl) (by kernel_rfl) H) (fun _ h_12 w_14 H HA_14 => ?_)
                      refine ls_nil ?_
                      refine then_normal ?_
                      refine fr_eq (b := ⟨([x0, x1_1, x2_1, undef, undef, undef, x6, undef, x1, x9, x9, (D 0), (D 1), x13, x0, x15, x16, undef, undef, undef, undef, undef, undef, undef, x2, x25, x25, (D_2 0), (D_2 1), x29, x2_1, x31, x31, (D_4 0), (D_4 1), x35, undef, undef, x2_1, x39, x39, (D_5 0), (D_5 1), x43, x43, (D_6 0), (D_6 1), x47, x48, undef] ++ [undef, undef, undef, undef, undef, undef, undef, undef, undef, undef, undef, undef, undef, undef, undef, undef, undef, undef, undef, undef, undef, undef, undef, undef, undef, undef, undef, undef, undef, undef, undef, undef, undef, undef, undef, undef, undef, undef, undef, undef, undef, undef, undef, undef, undef, undef, undef, undef]).toArray, []⟩) (by kernel_rfl) ?_
                      refine wp_ret ?_
                      refine then_ret ?_
                      obtain ⟨r6_2, hr6_2, H⟩ := ld_n Try.isAgg60 Try.sizeOf60 H
                      exact endR (vs := [r6_2]) (Try.results49) (by kernel_rfl) ⟨⟨_, (by kernel_rfl), hr6_2⟩, trivial⟩ HA_14 H _ (.inr rfl)
                    · refine wp_skip ?_
                      refine then_normal ?_
                      refine fr_eq (b := ⟨([x0, x1_1, x2_1, undef, undef, undef, x6, undef, x1, x9, x9, (D 0), (D 1), x13, x0, x15, x16, undef, undef, undef, undef, undef, undef, undef, x2, x25, x25, (D_2 0), (D_2 1), x29, x2_1, x31, x31, (D_4 0), (D_4 1), x35, undef, undef, x2_1, x39, x39, (D_5 0), (D_5 1), x43, x43, (D_6 0), (D_6 1), x47, undef, undef] ++ [undef, undef, undef, undef, undef, undef, undef, undef, undef, undef, undef, undef, undef, undef, undef, undef, undef, undef, undef, undef, undef, undef, undef, undef, undef, undef, undef, undef, undef, undef, undef, undef, undef, undef, undef, undef, undef, undef, undef, undef, undef, undef, undef, undef, undef, undef, undef, undef]).toArray, []⟩) (by kernel_rfl) ?_
                      refine wp_seq ?_
                      refine wp_seq ?_
                      refine lwp_list ?_
                      refine ls_move (x := x2_1) (by kernel_rfl) (by kernel_rfl) ?_
                      refine ls_p (d := some 50) (by kernel_rfl) (by kernel_rfl) (p_sEq (by kernel_rfl) (by kernel_rfl) H) (fun x50 H => ?_)
                      refine ls_nil ?_
                      refine then_normal ?_
                      refine fr_eq (b := ⟨([x0, x1_1, x2_1, undef, undef, undef, x6, undef, x1, x9, x9, (D 0), (D 1), x13, x0, x15, x16, undef, undef, undef, undef, undef, undef, undef, x2, x25, x25, (D_2 0), (D_2 1), x29, x2_1, x31, x31, (D_4 0), (D_4 1), x35, undef, undef, x2_1, x39, x39, (D_5 0), (D_5 1), x43, x43, (D_6 0), (D_6 1), x47, undef, x2_1] ++ [x50, undef, undef, undef, undef, undef, undef, undef, undef, undef, undef, undef, undef, undef, undef, undef, undef, undef, undef, undef, undef, undef, undef, undef, undef, undef, undef, undef, undef, undef, undef, undef, undef, undef, undef, undef, undef, undef, undef, undef, undef, undef, undef, undef, undef, undef, undef, undef]).toArray, []⟩) (by kernel_rfl) ?_
                      refine wp_if rfl H (fun H => ?_) (fun H => ?_)
                      · refine wp_seq ?_
                        refine lwp_list ?_
                        refine ls_move (x := x1_1) (by kernel_rfl) (by kernel_rfl) ?_
                        refine ls_p (d := some 52) (by kernel_rfl) (by kernel_rfl) (p_quo (by kernel_rfl) (by kernel_rfl) H) (fun x52 H => ?_)
                        refine ls_p (d := some 53) (by kernel_rfl) (by kernel_rfl) (p_add (by kernel_rfl) (by kernel_rfl) H) (fun x53 H => ?_)
                        refine ls_p (d := some 54) (by kernel_rfl) (by kernel_rfl) (p_mul (by kernel_rfl) (by kernel_rfl) H) (fun x54 H => ?_)
                        refine ls_assign (x := x54) (by kernel_rfl) (by kernel_rfl) ?_
                        refine ls_nil ?_
                        refine then_normal ?_
                        refine fr_eq (b := ⟨([x0, x1_1, x2_1, undef, undef, undef, x6, x54, x1, x9, x9, (D 0), (D 1), x13, x0, x15, x16, undef, undef, undef, undef, undef, undef, undef, x2, x25, x25, (D_2 0), (D_2 1), x29, x2_1, x31, x31, (D_4 0), (D_4 1), x35, undef, undef, x2_1, x39, x39, (D_5 0), (D_5 1), x43, x43, (D_6 0), (D_6 1), x47, undef, x2_1] ++ [x50, x1_1, x52, x53, x54, undef, undef, undef, undef, undef, undef, undef, undef, undef, undef, undef, undef, undef, undef, undef, undef, undef, undef, undef, undef, undef, undef, undef, undef, undef, undef, undef, undef, undef, undef, undef, undef, undef, undef, undef, undef, undef, undef, undef, undef, undef, undef, undef]).toArray, []⟩) (by kernel_rfl) ?_
                        refine wp_seq ?_
                        refine wp_seq ?_
                        refine lwp_list ?_
                        refine ls_move (x := x0) (by kernel_rfl) (by kernel_rfl) ?_
                        refine ls_d (d := some 56) (by kernel_rfl) (by kernel_rfl) HA_13 (d_call (by kernel_rfl) (by kernel_rfl) H) (fun x56 h_13 w_15 H HA_15 => ?_)
                        refine ls_p (d := some 57) (by kernel_rfl) (by kernel_rfl) (p_not (by kernel_rfl) H) (fun x57 H => ?_)
                        refine ls_nil ?_
                        refine then_normal ?_
                        refine fr_eq (b := ⟨([x0, x1_1, x2_1, undef, undef, undef, x6, x54, x1, x9, x9, (D 0), (D 1), x13, x0, x15, x16, undef, undef, undef, undef, undef, undef, undef, x2, x25, x25, (D_2 0), (D_2 1), x29, x2_1, x31, x31, (D_4 0), (D_4 1), x35, undef, undef, x2_1, x39, x39, (D_5 0), (D_5 1), x43, x43, (D_6 0), (D_6 1), x47, undef, x2_1] ++ [x50, x1_1, x52, x53, x54, x0, x56, x57, undef, undef, undef, undef, undef, undef, undef, undef, undef, undef, undef, undef, undef, undef, undef, undef, undef, undef, undef, undef, undef, undef, undef, undef, undef, undef, undef, undef, undef, undef, undef, undef, undef, undef, undef, undef, undef, undef, undef, undef]).toArray, []⟩) (by kernel_rfl) ?_
                        refine wp_if rfl H (fun H => ?_) (fun H => ?_)
                        · refine wp_seq ?_
                          refine lwp_list ?_
                          refine ls_d (d := some 58) (by kernel_rfl) (by kernel_rfl) HA_15 (d_slit (zc := #[.int .u8 0]) Try.underlying56 Try.sizeOf5 (by decide) (.inr ⟨by decide, _, Try.zeroValue5, (by kernel_rfl)⟩) (by kernel_rfl) (by kernel_rfl) H) (fun x58 h_14 w_16 H HA_16 => ?_)
                          refine ls_move (x := x54) (by kernel_rfl) (by kernel_rfl) ?_
                          refine ls_p (d := some 60) (by kernel_rfl) (by kernel_rfl) (p_lit (pl := [(0, 1), (1, 1)]) Try.zeroValue60 Try.underlying60 ⟨(by kernel_rfl), Try.sizeOf56, (by kernel_rfl), Try.sizeOf3, trivial⟩ (by kernel_rfl) (by kernel_rfl) H) (fun x60 H => ?_)
                          refine ls_d (d := none) (by kernel_rfl) (by kernel_rfl) HA_16 (d_stn Try.sizeOf60 (by kernel_rfl) (by kernel_rfl) H) (fun _ h_15 w_17 H HA_17 => ?_)
                          refine ls_nil ?_
                          refine then_normal ?_
                          refine fr_eq (b := ⟨([x0, x1_1, x2_1, undef, undef, undef, x6, x54, x1, x9, x9, (D 0), (D 1), x13, x0, x15, x16, undef, undef, undef, undef, undef, undef, undef, x2, x25, x25, (D_2 0), (D_2 1), x29, x2_1, x31, x31, (D_4 0), (D_4 1), x35, undef, undef, x2_1, x39, x39, (D_5 0), (D_5 1), x43, x43, (D_6 0), (D_6 1), x47, undef, x2_1] ++ [x50, x1_1, x52, x53, x54, x0, x56, x57, x58, x54, x60, undef, undef, undef, undef, undef, undef, undef, undef, undef, undef, undef, undef, undef, undef, undef, undef, undef, undef, undef, undef, undef, undef, undef, undef, undef, undef, undef, undef, undef, undef, undef, undef, undef, undef, undef, undef, undef]).toArray, []⟩) (by kernel_rfl) ?_
                          refine wp_ret ?_
                          refine then_ret ?_
                          refine then_ret ?_
                          obtain ⟨r6_3, hr6_3, H⟩ := ld_n Try.isAgg60 Try.sizeOf60 H
                          exact endR (vs := [r6_3]) (Try.results49) (by kernel_rfl) ⟨⟨_, (by kernel_rfl), hr6_3⟩, trivial⟩ HA_17 H _ (.inr rfl)
                        · refine wp_skip ?_
                          refine then_normal ?_
                          refine fr_eq (b := ⟨([x0, x1_1, x2_1, undef, undef, undef, x6, x54, x1, x9, x9, (D 0), (D 1), x13, x0, x15, x16, undef, undef, undef, undef, undef, undef, undef, x2, x25, x25, (D_2 0), (D_2 1), x29, x2_1, x31, x31, (D_4 0), (D_4 1), x35, undef, undef, x2_1, x39, x39, (D_5 0), (D_5 1), x43, x43, (D_6 0), (D_6 1), x47, undef, x2_1] ++ [x50, x1_1, x52, x53, x54, x0, x56, x57, undef, undef, undef, undef, undef, undef, undef, undef, undef, undef, undef, undef, undef, undef, undef, undef, undef, undef, undef, undef, undef, undef, undef, undef, undef, undef, undef, undef, undef, undef, undef, undef, undef, undef, undef, undef, undef, undef, undef, undef]).toArray, []⟩) (by kernel_rfl) ?_
                          refine wp_seq ?_
                          refine lwp_list ?_
                          refine ls_d (d := some 61) (by kernel_rfl) (by kernel_rfl) HA_15 (d_mk (z := #[.int .u8 0]) Try.underlying56 Try.typeInfo5 Try.sizeOf5 Try.zeroValue5 (by kernel_rfl) (by kernel_rfl) H) (fun x61 h_16 w_18 H HA_18 => ?_)
                          refine ls_move (x := x54) (by kernel_rfl) (by kernel_rfl) ?_
                          refine ls_p (d := some 63) (by kernel_rfl) (by kernel_rfl) (p_lit (pl := [(0, 1), (1, 1)]) Try.zeroValue60 Try.underlying60 ⟨(by kernel_rfl), Try.sizeOf56, (by kernel_rfl), Try.sizeOf3, trivial⟩ (by kernel_rfl) (by kernel_rfl) H) (fun x63 H => ?_)
                          refine ls_d (d := none) (by kernel_rfl) (by kernel_rfl) HA_18 (d_stn Try.sizeOf60 (by kernel_rfl) (by kernel_rfl) H) (fun _ h_17 w_19 H HA_19 => ?_)
                          refine ls_nil ?_
                          refine then_normal ?_
                          refine fr_eq (b := ⟨([x0, x1_1, x2_1, undef, undef, undef, x6, x54, x1, x9, x9, (D 0), (D 1), x13, x0, x15, x16, undef, undef, undef, undef, undef, undef, undef, x2, x25, x25, (D_2 0), (D_2 1), x29, x2_1, x31, x31, (D_4 0), (D_4 1), x35, undef, undef, x2_1, x39, x39, (D_5 0), (D_5 1), x43, x43, (D_6 0), (D_6 1), x47, undef, x2_1] ++ [x50, x1_1, x52, x53, x54, x0, x56, x57, undef, undef, undef, x61, x54, x63, undef, undef, undef, undef, undef, undef, undef, undef, undef, undef, undef, undef, undef, undef, undef, undef, undef, undef, undef, undef, undef, undef, undef, undef, undef, undef, undef, undef, undef, undef, undef, undef, undef, undef]).toArray, []⟩) (by kernel_rfl) ?_
                          refine wp_ret ?_
                          refine then_ret ?_
                          obtain ⟨r6_4, hr6_4, H⟩ := ld_n Try.isAgg60 Try.sizeOf60 H
                          exact endR (vs := [r6_4]) (Try.results49) (by kernel_rfl) ⟨⟨_, (by kernel_rfl), hr6_4⟩, trivial⟩ HA_19 H _ (.inr rfl)
                      · refine wp_skip ?_
                        refine then_normal ?_
                        refine fr_eq (b := ⟨([x0, x1_1, x2_1, undef, undef, undef, x6, undef, x1, x9, x9, (D 0), (D 1), x13, x0, x15, x16, undef, undef, undef, undef, undef, undef, undef, x2, x25, x25, (D_2 0), (D_2 1), x29, x2_1, x31, x31, (D_4 0), (D_4 1), x35, undef, undef, x2_1, x39, x39, (D_5 0), (D_5 1), x43, x43, (D_6 0), (D_6 1), x47, undef, x2_1] ++ [x50, undef, undef, undef, undef, undef, undef, undef, undef, undef, undef, undef, undef, undef, undef, undef, undef, undef, undef, undef, undef, undef, undef, undef, undef, undef, undef, undef, undef, undef, undef, undef, undef, undef, undef, undef, undef, undef, undef, undef, undef, undef, undef, undef, undef, undef, undef, undef]).toArray, []⟩) (by kernel_rfl) ?_
                        refine wp_seq ?_
                        refine wp_seq ?_
                        refine lwp_list ?_
                        refine ls_move (x := x2_1) (by kernel_rfl) (by kernel_rfl) ?_
                        refine ls_p (d := some 65) (by kernel_rfl) (by kernel_rfl) (p_sEq (by kernel_rfl) (by kernel_rfl) H) (fun x65 H => ?_)
                        refine ls_move (x := x65) (by kernel_rfl) (by kernel_rfl) ?_
                        refine ls_orh [(), (), (), (), (), (), ()] (fun K a w => ∃ (D_7 : Nat → Value) (x73 : Value) (h_18 : Heap), a = ⟨([x0, x1_1, x2_1, undef, undef, undef, x6, undef, x1, x9, x9, (D 0), (D 1), x13, x0, x15, x16, undef, undef, undef, undef, undef, undef, undef, x2, x25, x25, (D_2 0), (D_2 1), x29, x2_1, x31, x31, (D_4 0), (D_4 1), x35, undef, undef, x2_1, x39, x39, (D_5 0), (D_5 1), x43, x43, (D_6 0), (D_6 1), x47, undef, x2_1] ++ [x50, undef, undef, undef, undef, undef, undef, undef, undef, undef, undef, undef, undef, undef, x2_1, x65, x65, (D_7 0), (D_7 1), (D_7 2), (D_7 3), (D_7 4), (D_7 5), x73, undef, undef, undef, undef, undef, undef, undef, undef, undef, undef, undef, undef, undef, undef, undef, undef, undef, undef, undef, undef, undef, undef, undef, undef]).toArray, []⟩ ∧ At w0 w h_18 ∧ K x73 h_18) H (fun hb_3 H => ?_) (fun hb_3 H => ?_) ?_
                        · refine ls_move (x := x2_1) (by rw [hb_3]; kernel_rfl) (by kernel_rfl) ?_
                          refine ls_p (d := some 68) (by kernel_rfl) (by rw [hb_3]; kernel_rfl) (p_sEq (by kernel_rfl) (by kernel_rfl) H) (fun x68 H => ?_)
                          refine ls_move (x := x68) (by rw [hb_3]; kernel_rfl) (by kernel_rfl) ?_
                          refine ls_fr (b := ⟨([x0, x1_1, x2_1, undef, undef, undef, x6, undef, x1, x9, x9, (D 0), (D 1), x13, x0, x15, x16, undef, undef, undef, undef, undef, undef, undef, x2, x25, x25, (D_2 0), (D_2 1), x29, x2_1, x31, x31, (D_4 0), (D_4 1), x35, undef, undef, x2_1, x39, x39, (D_5 0), (D_5 1), x43, x43, (D_6 0), (D_6 1), x47, undef, x2_1] ++ [x50, undef, undef, undef, undef, undef, undef, undef, undef, undef, undef, undef, undef, undef, x2_1, x65, x65, x2_1, x68, x68, undef, undef, undef, undef, undef, undef, undef, undef, undef, undef, undef, undef, undef, undef, undef, undef, undef, undef, undef, undef, undef, undef, undef, undef, undef, undef, undef, undef]).toArray, []⟩) (by kernel_rfl) ?_
                          refine ls_andh [(), (), ()] (fun K a w => ∃ (D_14 : Nat → Value) (x72 : Value) (h_24 : Heap), a = ⟨([x0, x1_1, x2_1, undef, undef, undef, x6, undef, x1, x9, x9, (D 0), (D 1), x13, x0, x15, x16, undef, undef, undef, undef, undef, undef, undef, x2, x25, x25, (D_2 0), (D_2 1), x29, x2_1, x31, x31, (D_4 0), (D_4 1), x35, undef, undef, x2_1, x39, x39, (D_5 0), (D_5 1), x43, x43, (D_6 0), (D_6 1), x47, undef, x2_1] ++ [x50, undef, undef, undef, undef, undef, undef, undef, undef, undef, undef, undef, undef, undef, x2_1, x65, x65, x2_1, x68, x68, (D_14 0), (D_14 1), x72, undef, undef, undef, undef, undef, undef, undef, undef, undef, undef, undef, undef, undef, undef, undef, undef, undef, undef, undef, undef, undef, undef, undef, undef, undef]).toArray, []⟩ ∧ At w0 w h_24 ∧ K x72 h_24) H (fun hb_4 H => ?_) (fun hb_4 H => ?_) ?_
                          · refine ls_move (x := x0) (by rw [hb_4]; kernel_rfl) (by kernel_rfl) ?_
                            refine ls_d (d := some 71) (by kernel_rfl) (by rw [hb_4]; kernel_rfl) HA_13 (d_call (by kernel_rfl) (by kernel_rfl) H) (fun x71 h_25 w_30 H HA_30 => ?_)
                            refine ls_pick_t (x := x71) (by rw [hb_3]; kernel_rfl) (by rw [hb_4]; kernel_rfl) (by kernel_rfl) ?_
                            refine ls_nil ?_
                            refine then_normal ?_
                            exact ⟨(fun i => ([x0, x71]).getD i undef), x71, h_25, by kernel_rfl, HA_30, H⟩
                          · refine ls_skip (d := some 70) (by kernel_rfl) (by rw [hb_4]; kernel_rfl) ?_
                            refine ls_skip (d := some 71) (by kernel_rfl) (by rw [hb_4]; kernel_rfl) ?_
                            refine ls_pick_f (y := (.bool false)) (by rw [hb_3]; kernel_rfl) (by rw [hb_4]; kernel_rfl) (by kernel_rfl) ?_
                            refine ls_nil ?_
                            refine then_normal ?_
                            exact ⟨(fun i => ([undef, undef]).getD i undef), (.bool false), h_11, by kernel_rfl, HA_13, H⟩
                          · rintro _ w_29 ⟨D_14, x72, h_24, rfl, HA_29, H⟩
                            refine ls_pick_f (y := x72) (by kernel_rfl) (by rw [hb_3]; kernel_rfl) (by kernel_rfl) ?_
                            refine ls_nil ?_
                            refine then_normal ?_
                            exact ⟨(fun i => ([x2_1, x68, x68, (D_14 0), (D_14 1), x72]).getD i undef), x72, h_24, by kernel_rfl, HA_29, H⟩
                        · refine ls_skip (d := some 67) (by kernel_rfl) (by rw [hb_3]; kernel_rfl) ?_
                          refine ls_skip (d := some 68) (by kernel_rfl) (by rw [hb_3]; kernel_rfl) ?_
                          refine ls_skip (d := some 69) (by kernel_rfl) (by rw [hb_3]; kernel_rfl) ?_
                          refine ls_fr (b := ⟨([x0, x1_1, x2_1, undef, undef, undef, x6, undef, x1, x9, x9, (D 0), (D 1), x13, x0, x15, x16, undef, undef, undef, undef, undef, undef, undef, x2, x25, x25, (D_2 0), (D_2 1), x29, x2_1, x31, x31, (D_4 0), (D_4 1), x35, undef, undef, x2_1, x39, x39, (D_5 0), (D_5 1), x43, x43, (D_6 0), (D_6 1), x47, undef, x2_1] ++ [x50, undef, undef, undef, undef, undef, undef, undef, undef, undef, undef, undef, undef, undef, x2_1, x65, x65, undef, undef, undef, undef, undef, undef, undef, undef, undef, undef, undef, undef, undef, undef, undef, undef, undef, undef, undef, undef, undef, undef, undef, undef, undef, undef, undef, undef, undef, undef, undef]).toArray, []⟩) (by kernel_rfl) ?_
                          refine ls_skip (d := some 70) (by kernel_rfl) (by kernel_rfl) ?_
                          refine ls_skip (d := some 71) (by kernel_rfl) (by kernel_rfl) ?_
                          refine ls_skip (d := some 72) (by kernel_rfl) (by rw [hb_3]; kernel_rfl) ?_
                          refine ls_pick_t (x := (.bool true)) (by kernel_rfl) (by rw [hb_3]; kernel_rfl) (by kernel_rfl) ?_
                          refine ls_nil ?_
                          refine then_normal ?_
                          exact ⟨(fun i => ([undef, undef, undef, undef, undef, undef]).getD i undef), (.bool true), h_11, by kernel_rfl, HA_13, H⟩
                        · rintro _ w_20 ⟨D_7, x73, h_18, rfl, HA_20, H⟩
                          refine ls_nil ?_
                          refine then_normal ?_
                          refine fr_eq (b := ⟨([x0, x1_1, x2_1, undef, undef, undef, x6, undef, x1, x9, x9, (D 0), (D 1), x13, x0, x15, x16, undef, undef, undef, undef, undef, undef, undef, x2, x25, x25, (D_2 0), (D_2 1), x29, x2_1, x31, x31, (D_4 0), (D_4 1), x35, undef, undef, x2_1, x39, x39, (D_5 0), (D_5 1), x43, x43, (D_6 0), (D_6 1), x47, undef, x2_1] ++ [x50, undef, undef, undef, undef, undef, undef, undef, undef, undef, undef, undef, undef, undef, x2_1, x65, x65, (D_7 0), (D_7 1), (D_7 2), (D_7 3), (D_7 4), (D_7 5), x73, undef, undef, undef, undef, undef, undef, undef, undef, undef, undef, undef, undef, undef, undef, undef, undef, undef, undef, undef, undef, undef, undef, undef, undef]).toArray, []⟩) (by kernel_rfl) ?_
                          refine wp_join (fun a w => ∃ (D_8 : Nat → Value) (x1_2 : Value) (h_19 : Heap), a = ⟨([x0, x1_2, x2_1, undef, undef, undef, x6, undef, x1, x9, x9, (D 0), (D 1), x13, x0, x15, x16, undef, undef, undef, undef, undef, undef, undef, x2, x25, x25, (D_2 0), (D_2 1), x29, x2_1, x31, x31, (D_4 0), (D_4 1), x35, undef, undef, x2_1, x39, x39, (D_5 0), (D_5 1), x43, x43, (D_6 0), (D_6 1), x47, undef, x2_1] ++ [x50, undef, undef, undef, undef, undef, undef, undef, undef, undef, undef, undef, undef, undef, x2_1, x65, x65, (D_7 0), (D_7 1), (D_7 2), (D_7 3), (D_7 4), (D_7 5), x73, undef, undef, undef, undef, undef, undef, undef, undef, undef, undef, undef, undef, undef, undef, undef, undef, undef, undef, undef, undef, undef, undef, undef, undef]).toArray, []⟩ ∧ At w0 w h_19 ∧ betonyref19_Byte_j3 R x2_1 x6 x1_2 h_19) ?_ ?_
                          · refine wp_if rfl H (fun H => ?_) (fun H => ?_)
                            · refine lwp_list ?_
                              refine ls_assign (x := (.int .i64 0)) (by kernel_rfl) (by kernel_rfl) ?_
                              refine ls_nil ?_
                              exact ⟨(fun i => ([]).getD i undef), (.int .i64 0), h_18, by kernel_rfl, HA_20, H⟩
                            · refine wp_skip ?_
                              exact ⟨(fun i => ([]).getD i undef), x1_1, h_18, by kernel_rfl, HA_20, H⟩
                          · rintro _ w_21 ⟨D_8, x1_2, h_19, rfl, HA_21, H⟩
                            unfold betonyref19_Byte_j3 at H
                            refine then_normal ?_
                            refine fr_eq (b := ⟨([x0, x1_2, x2_1, undef, undef, undef, x6, undef, x1, x9, x9, (D 0), (D 1), x13, x0, x15, x16, undef, undef, undef, undef, undef, undef, undef, x2, x25, x25, (D_2 0), (D_2 1), x29, x2_1, x31, x31, (D_4 0), (D_4 1), x35, undef, undef, x2_1, x39, x39, (D_5 0), (D_5 1), x43, x43, (D_6 0), (D_6 1), x47, undef, x2_1] ++ [x50, undef, undef, undef, undef, undef, undef, undef, undef, undef, undef, undef, undef, undef, x2_1, x65, x65, (D_7 0), (D_7 1), (D_7 2), (D_7 3), (D_7 4), (D_7 5), x73, undef, undef, undef, undef, undef, undef, undef, undef, undef, undef, undef, undef, undef, undef, undef, undef, undef, undef, undef, undef, undef, undef, undef, undef]).toArray, []⟩) (by kernel_rfl) ?_
                            refine wp_seq ?_
                            refine wp_seq ?_
                            refine lwp_list ?_
                            refine ls_move (x := x2_1) (by kernel_rfl) (by kernel_rfl) ?_
                            refine ls_p (d := some 75) (by kernel_rfl) (by kernel_rfl) (p_sEq (by kernel_rfl) (by kernel_rfl) H) (fun x75 H => ?_)
                            refine ls_move (x := x75) (by kernel_rfl) (by kernel_rfl) ?_
                            refine ls_and [(), (), ()] (fun K a w => ∃ (D_9 : Nat → Value) (x79 : Value), a = ⟨([x0, x1_2, x2_1, undef, undef, undef, x6, undef, x1, x9, x9, (D 0), (D 1), x13, x0, x15, x16, undef, undef, undef, undef, undef, undef, undef, x2, x25, x25, (D_2 0), (D_2 1), x29, x2_1, x31, x31, (D_4 0), (D_4 1), x35, undef, undef, x2_1, x39, x39, (D_5 0), (D_5 1), x43, x43, (D_6 0), (D_6 1), x47, undef, x2_1] ++ [x50, undef, undef, undef, undef, undef, undef, undef, undef, undef, undef, undef, undef, undef, x2_1, x65, x65, (D_7 0), (D_7 1), (D_7 2), (D_7 3), (D_7 4), (D_7 5), x73, x2_1, x75, x75, (D_9 0), (D_9 1), x79, undef, undef, undef, undef, undef, undef, undef, undef, undef, undef, undef, undef, undef, undef, undef, undef, undef, undef]).toArray, []⟩ ∧ At w0 w h_19 ∧ K x79) H (fun hb_2 H => ?_) (fun hb_2 H => ?_) ?_
                            · refine ls_move (x := x1_2) (by rw [hb_2]; kernel_rfl) (by kernel_rfl) ?_
                              refine ls_p (d := some 78) (by kernel_rfl) (by rw [hb_2]; kernel_rfl) (p_sGt (by kernel_rfl) (by kernel_rfl) H) (fun x78 H => ?_)
                              refine ls_pick_t (x := x78) (by kernel_rfl) (by rw [hb_2]; kernel_rfl) (by kernel_rfl) ?_
                              refine ls_nil ?_
                              refine then_normal ?_
                              exact ⟨(fun i => ([x1_2, x78]).getD i undef), x78, by kernel_rfl, HA_21, H⟩
                            · refine ls_skip (d := some 77) (by kernel_rfl) (by rw [hb_2]; kernel_rfl) ?_
                              refine ls_skip (d := some 78) (by kernel_rfl) (by rw [hb_2]; kernel_rfl) ?_
                              refine ls_pick_f (y := (.bool false)) (by kernel_rfl) (by rw [hb_2]; kernel_rfl) (by kernel_rfl) ?_
                              refine ls_nil ?_
                              refine then_normal ?_
                              exact ⟨(fun i => ([undef, undef]).getD i undef), (.bool false), by kernel_rfl, HA_21, H⟩
                            · rintro _ w_22 ⟨D_9, x79, rfl, HA_22, H⟩
                              refine ls_nil ?_
                              refine then_normal ?_
                              refine fr_eq (b := ⟨([x0, x1_2, x2_1, undef, undef, undef, x6, undef, x1, x9, x9, (D 0), (D 1), x13, x0, x15, x16, undef, undef, undef, undef, undef, undef, undef, x2, x25, x25, (D_2 0), (D_2 1), x29, x2_1, x31, x31, (D_4 0), (D_4 1), x35, undef, undef, x2_1, x39, x39, (D_5 0), (D_5 1), x43, x43, (D_6 0), (D_6 1), x47, undef, x2_1] ++ [x50, undef, undef, undef, undef, undef, undef, undef, undef, undef, undef, undef, undef, undef, x2_1, x65, x65, (D_7 0), (D_7 1), (D_7 2), (D_7 3), (D_7 4), (D_7 5), x73, x2_1, x75, x75, (D_9 0), (D_9 1), x79, undef, undef, undef, undef, undef, undef, undef, undef, undef, undef, undef, undef, undef, undef, undef, undef, undef, undef]).toArray, []⟩) (by kernel_rfl) ?_
                              refine wp_join (fun a w => ∃ (D_10 : Nat → Value) (x1_3 : Value) (h_20 : Heap), a = ⟨([x0, x1_3, x2_1, undef, undef, undef, x6, undef, x1, x9, x9, (D 0), (D 1), x13, x0, x15, x16, undef, undef, undef, undef, undef, undef, undef, x2, x25, x25, (D_2 0), (D_2 1), x29, x2_1, x31, x31, (D_4 0), (D_4 1), x35, undef, undef, x2_1, x39, x39, (D_5 0), (D_5 1), x43, x43, (D_6 0), (D_6 1), x47, undef, x2_1] ++ [x50, undef, undef, undef, undef, undef, undef, undef, undef, undef, undef, undef, undef, undef, x2_1, x65, x65, (D_7 0), (D_7 1), (D_7 2), (D_7 3), (D_7 4), (D_7 5), x73, x2_1, x75, x75, (D_9 0), (D_9 1), x79, (D_10 0), (D_10 1), undef, undef, undef, undef, undef, undef, undef, undef, undef, undef, undef, undef, undef, undef, undef, undef]).toArray, []⟩ ∧ At w0 w h_20 ∧ betonyref19_Byte_j4 R x2_1 x6 x1_3 h_20) ?_ ?_
                              · refine wp_if rfl H (fun H => ?_) (fun H => ?_)
                                · refine lwp_list ?_
                                  refine ls_move (x := x1_2) (by kernel_rfl) (by kernel_rfl) ?_
                                  refine ls_p (d := some 81) (by kernel_rfl) (by kernel_rfl) (p_sub (by kernel_rfl) (by kernel_rfl) H) (fun x81 H => ?_)
                                  refine ls_assign (x := x81) (by kernel_rfl) (by kernel_rfl) ?_
                                  refine ls_nil ?_
                                  exact ⟨(fun i => ([x1_2, x81]).getD i undef), x81, h_19, by kernel_rfl, HA_22, H⟩
                                · refine wp_skip ?_
                                  exact ⟨(fun i => ([undef, undef]).getD i undef), x1_2, h_19, by kernel_rfl, HA_22, H⟩
                              · rintro _ w_23 ⟨D_10, x1_3, h_20, rfl, HA_23, H⟩
                                unfold betonyref19_Byte_j4 at H
                                refine then_normal ?_
                                refine fr_eq (b := ⟨([x0, x1_3, x2_1, undef, undef, undef, x6, undef, x1, x9, x9, (D 0), (D 1), x13, x0, x15, x16, undef, undef, undef, undef, undef, undef, undef, x2, x25, x25, (D_2 0), (D_2 1), x29, x2_1, x31, x31, (D_4 0), (D_4 1), x35, undef, undef, x2_1, x39, x39, (D_5 0), (D_5 1), x43, x43, (D_6 0), (D_6 1), x47, undef, x2_1] ++ [x50, undef, undef, undef, undef, undef, undef, undef, undef, undef, undef, undef, undef, undef, x2_1, x65, x65, (D_7 0), (D_7 1), (D_7 2), (D_7 3), (D_7 4), (D_7 5), x73, x2_1, x75, x75, (D_9 0), (D_9 1), x79, (D_10 0), (D_10 1), undef, undef, undef, undef, undef, undef, undef, undef, undef, undef, undef, undef, undef, undef, undef, undef]).toArray, []⟩) (by kernel_rfl) ?_
                                refine wp_seq ?_
                                refine wp_seq ?_
                                refine lwp_list ?_
                                refine ls_move (x := x2_1) (by kernel_rfl) (by kernel_rfl) ?_
                                refine ls_p (d := some 83) (by kernel_rfl) (by kernel_rfl) (p_sGe (by kernel_rfl) (by kernel_rfl) H) (fun x83 H => ?_)
                                refine ls_move (x := x83) (by kernel_rfl) (by kernel_rfl) ?_
                                refine ls_and [(), (), ()] (fun K a w => ∃ (D_11 : Nat → Value) (x87 : Value), a = ⟨([x0, x1_3, x2_1, undef, undef, undef, x6, undef, x1, x9, x9, (D 0), (D 1), x13, x0, x15, x16, undef, undef, undef, undef, undef, undef, undef, x2, x25, x25, (D_2 0), (D_2 1), x29, x2_1, x31, x31, (D_4 0), (D_4 1), x35, undef, undef, x2_1, x39, x39, (D_5 0), (D_5 1), x43, x43, (D_6 0), (D_6 1), x47, undef, x2_1] ++ [x50, undef, undef, undef, undef, undef, undef, undef, undef, undef, undef, undef, undef, undef, x2_1, x65, x65, (D_7 0), (D_7 1), (D_7 2), (D_7 3), (D_7 4), (D_7 5), x73, x2_1, x75, x75, (D_9 0), (D_9 1), x79, (D_10 0), (D_10 1), x2_1, x83, x83, (D_11 0), (D_11 1), x87, undef, undef, undef, undef, undef, undef, undef, undef, undef, undef]).toArray, []⟩ ∧ At w0 w h_20 ∧ K x87) H (fun hb_1 H => ?_) (fun hb_1 H => ?_) ?_
                                · refine ls_move (x := x2_1) (by rw [hb_1]; kernel_rfl) (by kernel_rfl) ?_
                                  refine ls_p (d := some 86) (by kernel_rfl) (by rw [hb_1]; kernel_rfl) (p_sLt (by kernel_rfl) (by kernel_rfl) H) (fun x86 H => ?_)
                                  refine ls_pick_t (x := x86) (by kernel_rfl) (by rw [hb_1]; kernel_rfl) (by kernel_rfl) ?_
                                  refine ls_nil ?_
                                  refine then_normal ?_
                                  exact ⟨(fun i => ([x2_1, x86]).getD i undef), x86, by kernel_rfl, HA_23, H⟩
                                · refine ls_skip (d := some 85) (by kernel_rfl) (by rw [hb_1]; kernel_rfl) ?_
                                  refine ls_skip (d := some 86) (by kernel_rfl) (by rw [hb_1]; kernel_rfl) ?_
                                  refine ls_pick_f (y := (.bool false)) (by kernel_rfl) (by rw [hb_1]; kernel_rfl) (by kernel_rfl) ?_
                                  refine ls_nil ?_
                                  refine then_normal ?_
                                  exact ⟨(fun i => ([undef, undef]).getD i undef), (.bool false), by kernel_rfl, HA_23, H⟩
                                · rintro _ w_24 ⟨D_11, x87, rfl, HA_24, H⟩
                                  refine ls_move (x := x87) (by kernel_rfl) (by kernel_rfl) ?_
                                  refine ls_or [(), (), ()] (fun K a w => ∃ (D_12 : Nat → Value) (x91 : Value), a = ⟨([x0, x1_3, x2_1, undef, undef, undef, x6, undef, x1, x9, x9, (D 0), (D 1), x13, x0, x15, x16, undef, undef, undef, undef, undef, undef, undef, x2, x25, x25, (D_2 0), (D_2 1), x29, x2_1, x31, x31, (D_4 0), (D_4 1), x35, undef, undef, x2_1, x39, x39, (D_5 0), (D_5 1), x43, x43, (D_6 0), (D_6 1), x47, undef, x2_1] ++ [x50, undef, undef, undef, undef, undef, undef, undef, undef, undef, undef, undef, undef, undef, x2_1, x65, x65, (D_7 0), (D_7 1), (D_7 2), (D_7 3), (D_7 4), (D_7 5), x73, x2_1, x75, x75, (D_9 0), (D_9 1), x79, (D_10 0), (D_10 1), x2_1, x83, x83, (D_11 0), (D_11 1), x87, x87, (D_12 0), (D_12 1), x91, undef, undef, undef, undef, undef, undef]).toArray, []⟩ ∧ At w0 w h_20 ∧ K x91) H (fun hb H => ?_) (fun hb H => ?_) ?_
                                  · refine ls_move (x := x2_1) (by rw [hb]; kernel_rfl) (by kernel_rfl) ?_
                                    refine ls_p (d := some 90) (by kernel_rfl) (by rw [hb]; kernel_rfl) (p_sGe (by kernel_rfl) (by kernel_rfl) H) (fun x90 H => ?_)
                                    refine ls_pick_f (y := x90) (by kernel_rfl) (by rw [hb]; kernel_rfl) (by kernel_rfl) ?_
                                    refine ls_nil ?_
                                    refine then_normal ?_
                                    exact ⟨(fun i => ([x2_1, x90]).getD i undef), x90, by kernel_rfl, HA_24, H⟩
                                  · refine ls_skip (d := some 89) (by kernel_rfl) (by rw [hb]; kernel_rfl) ?_
                                    refine ls_skip (d := some 90) (by kernel_rfl) (by rw [hb]; kernel_rfl) ?_
                                    refine ls_pick_t (x := (.bool true)) (by kernel_rfl) (by rw [hb]; kernel_rfl) (by kernel_rfl) ?_
                                    refine ls_nil ?_
                                    refine then_normal ?_
                                    exact ⟨(fun i => ([undef, undef]).getD i undef), (.bool true), by kernel_rfl, HA_24, H⟩
                                  · rintro _ w_25 ⟨D_12, x91, rfl, HA_25, H⟩
                                    refine ls_nil ?_
                                    refine then_normal ?_
                                    refine fr_eq (b := ⟨([x0, x1_3, x2_1, undef, undef, undef, x6, undef, x1, x9, x9, (D 0), (D 1), x13, x0, x15, x16, undef, undef, undef, undef, undef, undef, undef, x2, x25, x25, (D_2 0), (D_2 1), x29, x2_1, x31, x31, (D_4 0), (D_4 1), x35, undef, undef, x2_1, x39, x39, (D_5 0), (D_5 1), x43, x43, (D_6 0), (D_6 1), x47, undef, x2_1] ++ [x50, undef, undef, undef, undef, undef, undef, undef, undef, undef, undef, undef, undef, undef, x2_1, x65, x65, (D_7 0), (D_7 1), (D_7 2), (D_7 3), (D_7 4), (D_7 5), x73, x2_1, x75, x75, (D_9 0), (D_9 1), x79, (D_10 0), (D_10 1), x2_1, x83, x83, (D_11 0), (D_11 1), x87, x87, (D_12 0), (D_12 1), x91, undef, undef, undef, undef, undef, undef]).toArray, []⟩) (by kernel_rfl) ?_
                                    refine wp_join (fun a w => ∃ (D_13 : Nat → Value) (x1_4 : Value) (h_21 : Heap), a = ⟨([x0, x1_4, x2_1, undef, undef, undef, x6, undef, x1, x9, x9, (D 0), (D 1), x13, x0, x15, x16, undef, undef, undef, undef, undef, undef, undef, x2, x25, x25, (D_2 0), (D_2 1), x29, x2_1, x31, x31, (D_4 0), (D_4 1), x35, undef, undef, x2_1, x39, x39, (D_5 0), (D_5 1), x43, x43, (D_6 0), (D_6 1), x47, undef, x2_1] ++ [x50, undef, undef, undef, undef, undef, undef, undef, undef, undef, undef, undef, undef, undef, x2_1, x65, x65, (D_7 0), (D_7 1), (D_7 2), (D_7 3), (D_7 4), (D_7 5), x73, x2_1, x75, x75, (D_9 0), (D_9 1), x79, (D_10 0), (D_10 1), x2_1, x83, x83, (D_11 0), (D_11 1), x87, x87, (D_12 0), (D_12 1), x91, (D_13 0), (D_13 1), undef, undef, undef, undef]).toArray, []⟩ ∧ At w0 w h_21 ∧ betonyref19_Byte_j5 R x2_1 x6 x1_4 h_21) ?_ ?_
                                    · refine wp_if rfl H (fun H => ?_) (fun H => ?_)
                                      · refine lwp_list ?_
                                        refine ls_move (x := x1_3) (by kernel_rfl) (by kernel_rfl) ?_
                                        refine ls_p (d := some 93) (by kernel_rfl) (by kernel_rfl) (p_add (by kernel_rfl) (by kernel_rfl) H) (fun x93 H => ?_)
                                        refine ls_assign (x := x93) (by kernel_rfl) (by kernel_rfl) ?_
                                        refine ls_nil ?_
                                        exact ⟨(fun i => ([x1_3, x93]).getD i undef), x93, h_20, by kernel_rfl, HA_25, H⟩
                                      · refine wp_skip ?_
                                        exact ⟨(fun i => ([undef, undef]).getD i undef), x1_3, h_20, by kernel_rfl, HA_25, H⟩
                                    · rintro _ w_26 ⟨D_13, x1_4, h_21, rfl, HA_26, H⟩
                                      unfold betonyref19_Byte_j5 at H
                                      refine then_normal ?_
                                      refine fr_eq (b := ⟨([x0, x1_4, x2_1, undef, undef, undef, x6, undef, x1, x9, x9, (D 0), (D 1), x13, x0, x15, x16, undef, undef, undef, undef, undef, undef, undef, x2, x25, x25, (D_2 0), (D_2 1), x29, x2_1, x31, x31, (D_4 0), (D_4 1), x35, undef, undef, x2_1, x39, x39, (D_5 0), (D_5 1), x43, x43, (D_6 0), (D_6 1), x47, undef, x2_1] ++ [x50, undef, undef, undef, undef, undef, undef, undef, undef, undef, undef, undef, undef, undef, x2_1, x65, x65, (D_7 0), (D_7 1), (D_7 2), (D_7 3), (D_7 4), (D_7 5), x73, x2_1, x75, x75, (D_9 0), (D_9 1), x79, (D_10 0), (D_10 1), x2_1, x83, x83, (D_11 0), (D_11 1), x87, x87, (D_12 0), (D_12 1), x91, (D_13 0), (D_13 1), undef, undef, undef, undef]).toArray, []⟩) (by kernel_rfl) ?_
                                      refine wp_seq ?_
                                      refine lwp_list ?_
                                      refine ls_move (x := x2_1) (by kernel_rfl) (by kernel_rfl) ?_
                                      refine ls_d (d := some 95) (by kernel_rfl) (by kernel_rfl) HA_26 (d_slit (zc := #[.int .u8 0]) Try.underlying56 Try.sizeOf5 (by decide) (.inr ⟨by decide, _, Try.zeroValue5, (by kernel_rfl)⟩) (by kernel_rfl) (by kernel_rfl) H) (fun x95 h_22 w_27 H HA_27 => ?_)
                                      refine ls_move (x := x1_4) (by kernel_rfl) (by kernel_rfl) ?_
                                      refine ls_p (d := some 97) (by kernel_rfl) (by kernel_rfl) (p_lit (pl := [(0, 1), (1, 1)]) Try.zeroValue60 Try.underlying60 ⟨(by kernel_rfl), Try.sizeOf56, (by kernel_rfl), Try.sizeOf3, trivial⟩ (by kernel_rfl) (by kernel_rfl) H) (fun x97 H => ?_)
                                      refine ls_d (d := none) (by kernel_rfl) (by kernel_rfl) HA_27 (d_stn Try.sizeOf60 (by kernel_rfl) (by kernel_rfl) H) (fun _ h_23 w_28 H HA_28 => ?_)
                                      refine ls_nil ?_
                                      refine then_normal ?_
                                      refine fr_eq (b := ⟨([x0, x1_4, x2_1, undef, undef, undef, x6, undef, x1, x9, x9, (D 0), (D 1), x13, x0, x15, x16, undef, undef, undef, undef, undef, undef, undef, x2, x25, x25, (D_2 0), (D_2 1), x29, x2_1, x31, x31, (D_4 0), (D_4 1), x35, undef, undef, x2_1, x39, x39, (D_5 0), (D_5 1), x43, x43, (D_6 0), (D_6 1), x47, undef, x2_1] ++ [x50, undef, undef, undef, undef, undef, undef, undef, undef, undef, undef, undef, undef, undef, x2_1, x65, x65, (D_7 0), (D_7 1), (D_7 2), (D_7 3), (D_7 4), (D_7 5), x73, x2_1, x75, x75, (D_9 0), (D_9 1), x79, (D_10 0), (D_10 1), x2_1, x83, x83, (D_11 0), (D_11 1), x87, x87, (D_12 0), (D_12 1), x91, (D_13 0), (D_13 1), x2_1, x95, x1_4, x97]).toArray, []⟩) (by kernel_rfl) ?_
                                      refine wp_ret ?_
                                      obtain ⟨r6_5, hr6_5, H⟩ := ld_n Try.isAgg60 Try.sizeOf60 H
                                      exact endR (vs := [r6_5]) (Try.results49) (by kernel_rfl) ⟨⟨_, (by kernel_rfl), hr6_5⟩, trivial⟩ HA_28 H _ (.inr rfl)

end Go.Proofs.Ythhpieidlpjbmaa
