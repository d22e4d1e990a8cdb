/- The shallow reading of one function, and that the function does it. Written by a program. -/
import Derived.Test.YtlcklnbgknhhkaaFnC
import Derived.Test.YtlcklnbgknhhkaaHwU
set_option linter.unusedVariables false
namespace Go.Proofs.Ytlcklnbgknhhkaa
open Go Go.HW

def betonylaw18_LdiscPlays_j2 (R : Value → Heap → Prop) (next : Value → Heap → Prop) (x23 x34 x7 : Value) (h_10 : Heap) : Prop :=
  ∃ C : Heap → Prop, C h_10 ∧ (ldisc_Disc_Setting_c x23 h_10 fun x138 h_11 => C h_11 ∧ (
  sNil x34 fun x140 =>
  sOff x140 0 fun x141 =>
  sLdNC C x141 17 fun x142 =>
  sNeqAgg x138 x142 [some .i64, some .i64, some .i64, some .i64, some .i64, some .i64, some .i64, some .i64, some .i64, some .i64, some .i64, some .i64, some .i64, some .i64, some .i64, some .i64, some .i64] fun x143 =>
  sOrH x143 h_11 (fun k_2 =>
  ldisc_Disc_Ready_c x23 h_11 fun x146 h_18 => C h_18 ∧ (
  betonyref18_Disc_Ready_c x34 h_18 fun x148 h_19 => C h_19 ∧ (
  sNe x146 x148 fun x149 =>
  k_2 x149 h_19))) fun x150 h_12 =>
  sOrH x150 h_12 (fun k_1 =>
  ldisc_Disc_Line_c x23 h_12 fun x153 h_16 => C h_16 ∧ (
  sNil x34 fun x155 =>
  sOff x155 17 fun x156 =>
  sLdC C x156 fun x157 =>
  betonyref01_Same_c x153 x157 h_16 fun x158 h_17 => C h_17 ∧ (
  sNot x158 fun x159 =>
  k_1 x159 h_17))) fun x160 h_13 =>
  sOrH x160 h_13 (fun k =>
  ldisc_Disc_Stopped_c x23 h_13 fun x163 h_15 => C h_15 ∧ (
  sNil x34 fun x165 =>
  sOff x165 20 fun x166 =>
  sLdC C x166 fun x167 =>
  sNeqB x163 x167 fun x168 =>
  k x168 h_15)) fun x169 h_14 =>
  sIf x169 (R (.bool false) h_14) (sAdd .i64 x7 (.int .i64 1) fun x40 =>
  next x40 h_14)))
def betonylaw18_LdiscPlays_l3 (R : Value → Heap → Prop) (next : Value → Heap → Prop) (x23 x34 x7 x8 : Value) (next1 : Value → Heap → Prop) (x9 : Value) (h_20 : Heap) : Prop :=
  sOff x8 2 fun x55 =>
  sLd h_20 x55 fun x56 =>
  sLen x56 fun x57 =>
  sLt x9 x57 fun x58 =>
  sIf x58 (sOff x8 2 fun x62 =>
  sLd h_20 x62 fun x63 =>
  sIxS x63 x9 1 fun x65 =>
  sLd h_20 x65 fun x66 =>
  betonyref18_Disc_Input_c x34 x66 h_20 fun x67 h_21 => 
  sOff x8 2 fun x70 =>
  sLd h_21 x70 fun x71 =>
  sIxS x71 x9 1 fun x73 =>
  sLd h_21 x73 fun x74 =>
  ldisc_Disc_Input_c x23 x74 h_21 fun x75 h_22 => 
  sTup x75 0 fun x76 =>
  sTup x75 1 fun x77 =>
  sNe x77 x67 fun x80 =>
  sOrH x80 h_22 (fun k_3 =>
  sNil x34 fun x84 =>
  sOff x84 22 fun x85 =>
  sLd h_22 x85 fun x86 =>
  betonyref01_Same_c x76 x86 h_22 fun x87 h_24 => 
  sNot x87 fun x88 =>
  k_3 x88 h_24) fun x89 h_23 =>
  sIf x89 (R (.bool false) h_23) (sAdd .i64 x9 (.int .i64 1) fun x60 =>
  next1 x60 h_23)) (betonylaw18_LdiscPlays_j2 R next x23 x34 x7 h_20)
def betonylaw18_LdiscPlays_l1 (R : Value → Heap → Prop) (x1 x23 x34 : Value) (next : Value → Heap → Prop) (x7 : Value) (h_6 : Heap) : Prop :=
  sLen x1 fun x37 =>
  sLt x7 x37 fun x38 =>
  sIf x38 (sIxS x1 x7 20 fun x43 =>
  sLdN h_6 x43 20 fun x44 =>
  sNew h_6 #[.int .i64 0, .int .i64 0, .slice none 0 0, .int .i64 0, .int .i64 0, .int .i64 0, .int .i64 0, .int .i64 0, .int .i64 0, .int .i64 0, .int .i64 0, .int .i64 0, .int .i64 0, .int .i64 0, .int .i64 0, .int .i64 0, .int .i64 0, .int .i64 0, .int .i64 0, .int .i64 0] 50 fun x8 h_7 => 
  sStN h_7 x8 x44 20 fun h_8 => 
  sOff x8 2 fun x45 =>
  sLd h_8 x45 fun x46 =>
  sLen x46 fun x47 =>
  sGt x47 (.int .i64 60) fun x48 =>
  sIf x48 (betonylaw18_awake_c  h_8 fun x49 h_9 => 
  R x49 h_9) (sOff x8 0 fun x50 =>
  sLd h_8 x50 fun x51 =>
  sEq x51 (.int .i64 0) fun x53 =>
  sIf x53 (sLoop (S := Value) (fun nxt s h => betonylaw18_LdiscPlays_l3 R next x23 x34 x7 x8 (fun x9' h => nxt x9' h) s h) (.int .i64 0) h_8) (sEq x51 (.int .i64 1) fun x91 =>
  sIf x91 (sOff x8 1 fun x94 =>
  sLd h_8 x94 fun x95 =>
  betonyref18_Disc_Read_c x34 x95 h_8 fun x96 h_25 => 
  sTup x96 0 fun x97 =>
  sTup x96 1 fun x98 =>
  sOff x8 1 fun x101 =>
  sLd h_25 x101 fun x102 =>
  ldisc_Disc_Read_c x23 x102 h_25 fun x103 h_26 => 
  sTup x103 0 fun x104 =>
  sTup x103 1 fun x105 =>
  betonyref01_Same_c x97 x104 h_26 fun x108 h_27 => 
  sNot x108 fun x109 =>
  sOr x109 (fun k_4 =>
  sNeqB x98 x105 fun x113 =>
  k_4 x113) fun x114 =>
  sIf x114 (R (.bool false) h_27) (betonylaw18_LdiscPlays_j2 R next x23 x34 x7 h_27)) (sEq x51 (.int .i64 2) fun x116 =>
  sIf x116 (sOff x8 3 fun x117 =>
  sLdN h_8 x117 17 fun x118 =>
  betonyref17_Right_c x118 h_8 fun x119 h_28 => 
  sOff x8 3 fun x121 =>
  sLdN h_28 x121 17 fun x122 =>
  ldisc_Disc_Set_c x23 x122 h_28 fun x123 h_29 => 
  sNeqB x123 x119 fun x125 =>
  sIf x125 (R (.bool false) h_29) (sIf x119 (sOff x8 3 fun x128 =>
  sLdN h_29 x128 17 fun x129 =>
  betonyref18_Disc_Set_c x34 x129 h_29 fun x130 h_30 => 
  betonylaw18_LdiscPlays_j2 R next x23 x34 x7 h_30) (betonylaw18_LdiscPlays_j2 R next x23 x34 x7 h_29))) (sEq x51 (.int .i64 3) fun x132 =>
  sIf x132 (ldisc_Disc_Flush_c x23 h_8 fun x134 h_31 => 
  betonyref18_Disc_Flush_c x34 h_31 fun x136 h_32 => 
  betonylaw18_LdiscPlays_j2 R next x23 x34 x7 h_32) (betonylaw18_LdiscPlays_j2 R next x23 x34 x7 h_8)))))) (betonylaw18_awake_c  h_6 fun x170 h_33 => 
  R x170 h_33)
def betonylaw18_LdiscPlays_S (x0 x1 : Value) (h : Heap) (R : Value → Heap → Prop) : Prop :=
  sBox h x0 28 fun x2 h => 
  sLen x1 fun x19 =>
  sGt x19 (.int .i64 30) fun x20 =>
  sIf x20 (betonylaw18_awake_c  h fun x21 h_1 => 
  R x21 h_1) (sLdN h x2 17 fun x22 =>
  ldisc_New_c x22 h fun x23 h_2 => 
  sNeqNil x23 fun x25 =>
  sLdN h_2 x2 17 fun x26 =>
  betonyref17_Right_c x26 h_2 fun x27 h_3 => 
  sNeqB x25 x27 fun x28 =>
  sIf x28 (R (.bool false) h_3) (sEqlNil x23 fun x30 =>
  sIf x30 (betonylaw18_awake_c  h_3 fun x31 h_4 => 
  R x31 h_4) (sLdN h_3 x2 17 fun x32 =>
  sBuild #[.int .i64 0, .int .i64 0, .int .i64 0, .int .i64 0, .int .i64 0, .int .i64 0, .int .i64 0, .int .i64 0, .int .i64 0, .int .i64 0, .int .i64 0, .int .i64 0, .int .i64 0, .int .i64 0, .int .i64 0, .int .i64 0, .int .i64 0, .slice none 0 0, .slice none 0 0, .slice none 0 0, .bool false, .bool false, .slice none 0 0] [(0, 17, x32)] fun x33 =>
  sBox h_3 x33 48 fun x34 h_5 => 
  sLoop (S := Value) (fun nxt s h => betonylaw18_LdiscPlays_l1 R x1 x23 x34 (fun x7' h => nxt x7' h) s h) (.int .i64 0) h_5)))
set_option maxHeartbeats 4000000 in
set_option maxRecDepth 100000 in
theorem betonylaw18_LdiscPlays_runs {x0 x1 : Value} {h : Heap} {R : Value → Heap → Prop} (H : betonylaw18_LdiscPlays_S x0 x1 h R) : betonylaw18_LdiscPlays_c x0 x1 h R := by
 unfold betonylaw18_LdiscPlays_S at H
 refine runs_of (b := ⟨(Ap [x0, x1] 169).toArray, []⟩) Try.call8 Try.func8 rfl (by kernel_rfl) (fun w0 HA => ?_)
 refine wp_seq (lwp_list ?_)
 refine ls_d (d := some 2) (by kernel_rfl) (by kernel_rfl) HA (d_box (by kernel_rfl) H) (fun x2 h w H HA => ?_)
 refine ls_assign (x := (.bool false)) (by kernel_rfl) (by kernel_rfl) ?_
 refine ls_nil (then_normal ?_)
 refine fr_eq (b := ⟨(Ap [x0, x1, x2, ud, (.bool false)] 166).toArray, []⟩) (by kernel_rfl) ?_
 refine wp_seq ?_
 refine wp_seq (lwp_list ?_)
 refine ls_move (x := x1) (by kernel_rfl) (by kernel_rfl) ?_
 refine ls_p (d := some 19) (by kernel_rfl) (by kernel_rfl) (p_len Try.underlying44 (by kernel_rfl) H) (fun x19 H => ?_)
 refine ls_p (d := some 20) (by kernel_rfl) (by kernel_rfl) (p_sGt (by kernel_rfl) (by kernel_rfl) H) (fun x20 H => ?_)
 refine ls_nil (then_normal ?_)
 refine fr_eq (b := ⟨(Aq [x0, x1, x2, ud, (.bool false)] 13 (Ap [x1, x19, x20] 150)).toArray, []⟩) (by kernel_rfl) ?_
 refine wp_if rfl H (fun H => ?_) (fun H => ?_)
 ·refine wp_seq (lwp_list ?_)
  refine ls_d (d := some 21) (by kernel_rfl) (by kernel_rfl) HA (d_call (by kernel_rfl) (by kernel_rfl) H) (fun x21 h_1 w_1 H HA_1 => ?_)
  refine ls_assign (x := x21) (by kernel_rfl) (by kernel_rfl) ?_
  refine ls_nil (then_normal ?_)
  refine fr_eq (b := ⟨(Aq [x0, x1, x2, ud, x21] 13 (Ap [x1, x19, x20, x21] 149)).toArray, []⟩) (by kernel_rfl) ?_
  refine wp_ret ?_
  refine then_ret ?_
  exact end1 (Try.results8) (by kernel_rfl) (by kernel_rfl) HA_1 H _ (.inr rfl)
 ·refine wp_skip ?_
  refine then_normal ?_
  refine fr_eq (b := ⟨(Aq [x0, x1, x2, ud, (.bool false)] 13 (Ap [x1, x19, x20] 150)).toArray, []⟩) (by kernel_rfl) ?_
  refine wp_seq (lwp_list ?_)
  refine ls_y (d := some 22) (by kernel_rfl) (by kernel_rfl) HA (y_ldn Try.isAgg28 Try.sizeOf28 (by kernel_rfl) H) (fun x22 H => ?_)
  refine ls_d (d := some 23) (by kernel_rfl) (by kernel_rfl) HA (d_call (by kernel_rfl) (by kernel_rfl) H) (fun x23 h_2 w_2 H HA_2 => ?_)
  refine ls_assign (x := x23) (by kernel_rfl) (by kernel_rfl) ?_
  refine ls_nil (then_normal ?_)
  refine fr_eq (b := ⟨(Aq [x0, x1, x2, ud, (.bool false), x23] 12 (Ap [x1, x19, x20, ud, x22, x23] 147)).toArray, []⟩) (by kernel_rfl) ?_
  refine wp_seq ?_
  refine wp_seq (lwp_list ?_)
  refine ls_move (x := x23) (by kernel_rfl) (by kernel_rfl) ?_
  refine ls_p (d := some 25) (by kernel_rfl) (by kernel_rfl) (p_neqNil Try.underlying24 (by kernel_rfl) (by kernel_rfl) H) (fun x25 H => ?_)
  refine ls_y (d := some 26) (by kernel_rfl) (by kernel_rfl) HA_2 (y_ldn Try.isAgg28 Try.sizeOf28 (by kernel_rfl) H) (fun x26 H => ?_)
  refine ls_d (d := some 27) (by kernel_rfl) (by kernel_rfl) HA_2 (d_call (by kernel_rfl) (by kernel_rfl) H) (fun x27 h_3 w_3 H HA_3 => ?_)
  refine ls_p (d := some 28) (by kernel_rfl) (by kernel_rfl) (p_neqB Try.underlying4 (by kernel_rfl) (by kernel_rfl) H) (fun x28 H => ?_)
  refine ls_nil (then_normal ?_)
  refine fr_eq (b := ⟨(Aq [x0, x1, x2, ud, (.bool false), x23] 12 (Ap [x1, x19, x20, ud, x22, x23, x23, x25, x26, x27, x28] 142)).toArray, []⟩) (by kernel_rfl) ?_
  refine wp_if rfl H (fun H => ?_) (fun H => ?_)
  ·refine wp_seq (lwp_list ?_)
   refine ls_assign (x := (.bool false)) (by kernel_rfl) (by kernel_rfl) ?_
   refine ls_nil (then_normal ?_)
   refine fr_eq (b := ⟨(Aq [x0, x1, x2, ud, (.bool false), x23] 12 (Ap [x1, x19, x20, ud, x22, x23, x23, x25, x26, x27, x28] 142)).toArray, []⟩) (by kernel_rfl) ?_
   refine wp_ret ?_
   refine then_ret ?_
   exact end1 (Try.results8) (by kernel_rfl) (by kernel_rfl) HA_3 H _ (.inr rfl)
  ·refine wp_skip ?_
   refine then_normal ?_
   refine fr_eq (b := ⟨(Aq [x0, x1, x2, ud, (.bool false), x23] 12 (Ap [x1, x19, x20, ud, x22, x23, x23, x25, x26, x27, x28] 142)).toArray, []⟩) (by kernel_rfl) ?_
   refine wp_seq ?_
   refine wp_seq (lwp_list ?_)
   refine ls_move (x := x23) (by kernel_rfl) (by kernel_rfl) ?_
   refine ls_p (d := some 30) (by kernel_rfl) (by kernel_rfl) (p_eqlNil Try.underlying24 (by kernel_rfl) (by kernel_rfl) H) (fun x30 H => ?_)
   refine ls_nil (then_normal ?_)
   refine fr_eq (b := ⟨(Aq [x0, x1, x2, ud, (.bool false), x23] 12 (Ap [x1, x19, x20, ud, x22, x23, x23, x25, x26, x27, x28, x23, x30] 140)).toArray, []⟩) (by kernel_rfl) ?_
   refine wp_if rfl H (fun H => ?_) (fun H => ?_)
   ·refine wp_seq (lwp_list ?_)
    refine ls_d (d := some 31) (by kernel_rfl) (by kernel_rfl) HA_3 (d_call (by kernel_rfl) (by kernel_rfl) H) (fun x31 h_4 w_4 H HA_4 => ?_)
    refine ls_assign (x := x31) (by kernel_rfl) (by kernel_rfl) ?_
    refine ls_nil (then_normal ?_)
    refine fr_eq (b := ⟨(Aq [x0, x1, x2, ud, x31, x23] 12 (Ap [x1, x19, x20, ud, x22, x23, x23, x25, x26, x27, x28, x23, x30, x31] 139)).toArray, []⟩) (by kernel_rfl) ?_
    refine wp_ret ?_
    refine then_ret ?_
    exact end1 (Try.results8) (by kernel_rfl) (by kernel_rfl) HA_4 H _ (.inr rfl)
   ·refine wp_skip ?_
    refine then_normal ?_
    refine fr_eq (b := ⟨(Aq [x0, x1, x2, ud, (.bool false), x23] 12 (Ap [x1, x19, x20, ud, x22, x23, x23, x25, x26, x27, x28, x23, x30] 140)).toArray, []⟩) (by kernel_rfl) ?_
    refine wp_seq (lwp_list ?_)
    refine ls_y (d := some 32) (by kernel_rfl) (by kernel_rfl) HA_3 (y_ldn Try.isAgg28 Try.sizeOf28 (by kernel_rfl) H) (fun x32 H => ?_)
    refine ls_p (d := some 33) (by kernel_rfl) (by kernel_rfl) (p_lit (pl := [(0, 17), (17, 1), (18, 1), (19, 1), (20, 1), (21, 1), (22, 1)]) Try.zeroValue48 Try.underlying48 ⟨(by kernel_rfl), Try.sizeOf28, (by kernel_rfl), Try.sizeOf30, (by kernel_rfl), Try.sizeOf22, (by kernel_rfl), Try.sizeOf30, (by kernel_rfl), Try.sizeOf4, (by kernel_rfl), Try.sizeOf4, (by kernel_rfl), Try.sizeOf30, trivial⟩ (by kernel_rfl) (by kernel_rfl) H) (fun x33 H => ?_)
    refine ls_d (d := some 34) (by kernel_rfl) (by kernel_rfl) HA_3 (d_box (by kernel_rfl) H) (fun x34 h_5 w_5 H HA_5 => ?_)
    refine ls_assign (x := x34) (by kernel_rfl) (by kernel_rfl) ?_
    refine ls_nil (then_normal ?_)
    refine fr_eq (b := ⟨(Aq [x0, x1, x2, ud, (.bool false), x23, x34] 11 (Ap [x1, x19, x20, ud, x22, x23, x23, x25, x26, x27, x28, x23, x30, ud, x32, x33, x34] 136)).toArray, []⟩) (by kernel_rfl) ?_
    refine wp_seq ?_
    refine wp_seq (lwp_list ?_)
    refine ls_assign (x := (.int .i64 0)) (by kernel_rfl) (by kernel_rfl) ?_
    refine ls_nil (then_normal ?_)
    refine fr_eq (b := ⟨(Aq [x0, x1, x2, ud, (.bool false), x23, x34, (.int .i64 0)] 10 (Ap [x1, x19, x20, ud, x22, x23, x23, x25, x26, x27, x28, x23, x30, ud, x32, x33, x34] 136)).toArray, []⟩) (by kernel_rfl) ?_
    refine wp_block ?_
    obtain ⟨I, m, H0, HB⟩ := H
    refine wp_loop (fun a w => ∃ (D : Nat → Value) (x7 : Value) (h_6 : Heap), a = ⟨([x0, x1, x2, ud, (D 0), x23, x34, x7] ++ (Ad D 1 10 ([x1, x19, x20, ud, x22, x23, x23, x25, x26, x27, x28, x23, x30, ud, x32, x33, x34] ++ (Ad D 11 135 [ud])))).toArray, []⟩ ∧ At w0 w h_6 ∧ I x7 h_6) (fun a w => m (a.tmps.getD 7 ud) w.heap) ?_ ?_
    ·exact ⟨(fun i => (Ap [(.bool false)] 145).getD i ud), (.int .i64 0), h_5, by kernel_rfl, HA_5, H0⟩
    ·rintro _ w_6 ⟨D, x7, h_6, rfl, HA_6, HI⟩
     have H : betonylaw18_LdiscPlays_l1 R x1 x23 x34 (fun x7' h' => I x7' h' ∧ m x7' h' < m x7 h_6) x7 h_6 := HB x7 h_6 HI
     clear HB H0 HI
     unfold betonylaw18_LdiscPlays_l1 at H
     refine wp_seq ?_
     refine wp_seq (lwp_list ?_)
     refine ls_move (x := x7) (by kernel_rfl) (by kernel_rfl) ?_
     refine ls_move (x := x1) (by kernel_rfl) (by kernel_rfl) ?_
     refine ls_p (d := some 37) (by kernel_rfl) (by kernel_rfl) (p_len Try.underlying44 (by kernel_rfl) H) (fun x37 H => ?_)
     refine ls_p (d := some 38) (by kernel_rfl) (by kernel_rfl) (p_sLt (by kernel_rfl) (by kernel_rfl) H) (fun x38 H => ?_)
     refine ls_nil (then_normal ?_)
     refine fr_eq (b := ⟨([x0, x1, x2, ud, (D 0), x23, x34, x7] ++ (Ad D 1 10 ([x1, x19, x20, ud, x22, x23, x23, x25, x26, x27, x28, x23, x30, ud, x32, x33, x34, x7, x1, x37, x38] ++ (Ad D 15 131 [ud])))).toArray, []⟩) (by kernel_rfl) ?_
     refine wp_if rfl H (fun H => ?_) (fun H => ?_)
     ·refine wp_skip ?_
      refine then_normal ?_
      refine fr_eq (b := ⟨([x0, x1, x2, ud, (D 0), x23, x34, x7] ++ (Ad D 1 10 ([x1, x19, x20, ud, x22, x23, x23, x25, x26, x27, x28, x23, x30, ud, x32, x33, x34, x7, x1, x37, x38] ++ (Ad D 15 131 [ud])))).toArray, []⟩) (by kernel_rfl) ?_
      refine wp_seq ?_
      refine wp_block ?_
      refine wp_seq (lwp_list ?_)
      refine ls_move (x := x1) (by kernel_rfl) (by kernel_rfl) ?_
      refine ls_move (x := x7) (by kernel_rfl) (by kernel_rfl) ?_
      refine ls_p (d := some 43) (by kernel_rfl) (by kernel_rfl) (p_ixs Try.underlying44 Try.sizeOf50 (by kernel_rfl) (by kernel_rfl) H) (fun x43 H => ?_)
      refine ls_y (d := some 44) (by kernel_rfl) (by kernel_rfl) HA_6 (y_ldn Try.isAgg50 Try.sizeOf50 (by kernel_rfl) H) (fun x44 H => ?_)
      refine ls_d (d := some 8) (by kernel_rfl) (by kernel_rfl) HA_6 (d_alloc Try.zeroValue50 H) (fun x8 h_7 w_7 H HA_7 => ?_)
      refine ls_d (d := none) (by kernel_rfl) (by kernel_rfl) HA_7 (d_stn Try.sizeOf50 (by kernel_rfl) (by kernel_rfl) H) (fun _ h_8 w_8 H HA_8 => ?_)
      refine ls_nil (then_normal ?_)
      refine fr_eq (b := ⟨([x0, x1, x2, ud, (D 0), x23, x34, x7, x8] ++ (Ad D 2 9 ([x1, x19, x20, ud, x22, x23, x23, x25, x26, x27, x28, x23, x30, ud, x32, x33, x34, x7, x1, x37, x38, (D 15), (D 16), x1, x7, x43, x44] ++ (Ad D 21 125 [ud])))).toArray, []⟩) (by kernel_rfl) ?_
      refine wp_seq ?_
      refine wp_seq (lwp_list ?_)
      refine ls_p (d := some 45) (by kernel_rfl) (by kernel_rfl) (p_off Try.underlying50 rfl (fun w => ⟨_, Try.sizeOf30 w⟩) rfl (by kernel_rfl) H) (fun x45 H => ?_)
      refine ls_y (d := some 46) (by kernel_rfl) (by kernel_rfl) HA_8 (y_ld Try.isAgg30 (by kernel_rfl) H) (fun x46 H => ?_)
      refine ls_p (d := some 47) (by kernel_rfl) (by kernel_rfl) (p_len Try.underlying30 (by kernel_rfl) H) (fun x47 H => ?_)
      refine ls_p (d := some 48) (by kernel_rfl) (by kernel_rfl) (p_sGt (by kernel_rfl) (by kernel_rfl) H) (fun x48 H => ?_)
      refine ls_nil (then_normal ?_)
      refine fr_eq (b := ⟨([x0, x1, x2, ud, (D 0), x23, x34, x7, x8] ++ (Ad D 2 9 ([x1, x19, x20, ud, x22, x23, x23, x25, x26, x27, x28, x23, x30, ud, x32, x33, x34, x7, x1, x37, x38, (D 15), (D 16), x1, x7, x43, x44, x45, x46, x47, x48] ++ (Ad D 25 121 [ud])))).toArray, []⟩) (by kernel_rfl) ?_
      refine wp_if rfl H (fun H => ?_) (fun H => ?_)
      ·refine wp_seq (lwp_list ?_)
       refine ls_d (d := some 49) (by kernel_rfl) (by kernel_rfl) HA_8 (d_call (by kernel_rfl) (by kernel_rfl) H) (fun x49 h_9 w_9 H HA_9 => ?_)
       refine ls_assign (x := x49) (by kernel_rfl) (by kernel_rfl) ?_
       refine ls_nil (then_normal ?_)
       refine fr_eq (b := ⟨([x0, x1, x2, ud, x49, x23, x34, x7, x8] ++ (Ad D 2 9 ([x1, x19, x20, ud, x22, x23, x23, x25, x26, x27, x28, x23, x30, ud, x32, x33, x34, x7, x1, x37, x38, (D 15), (D 16), x1, x7, x43, x44, x45, x46, x47, x48, x49] ++ (Ad D 26 120 [ud])))).toArray, []⟩) (by kernel_rfl) ?_
       refine wp_ret ?_
       refine then_ret ?_
       refine block_ret ?_
       refine then_ret ?_
       refine then_ret ?_
       refine block_ret ?_
       refine then_ret ?_
       exact end1 (Try.results8) (by kernel_rfl) (by kernel_rfl) HA_9 H _ (.inr rfl)
      ·refine wp_skip ?_
       refine then_normal ?_
       refine fr_eq (b := ⟨([x0, x1, x2, ud, (D 0), x23, x34, x7, x8] ++ (Ad D 2 9 ([x1, x19, x20, ud, x22, x23, x23, x25, x26, x27, x28, x23, x30, ud, x32, x33, x34, x7, x1, x37, x38, (D 15), (D 16), x1, x7, x43, x44, x45, x46, x47, x48] ++ (Ad D 25 121 [ud])))).toArray, []⟩) (by kernel_rfl) ?_
       refine wp_seq ?_
       refine wp_seq (lwp_list ?_)
       refine ls_p (d := some 50) (by kernel_rfl) (by kernel_rfl) (p_off Try.underlying50 rfl (fun w => ⟨_, Try.sizeOf3 w⟩) rfl (by kernel_rfl) H) (fun x50 H => ?_)
       refine ls_y (d := some 51) (by kernel_rfl) (by kernel_rfl) HA_8 (y_ld Try.isAgg3 (by kernel_rfl) H) (fun x51 H => ?_)
       refine ls_nil (then_normal ?_)
       refine fr_eq (b := ⟨([x0, x1, x2, ud, (D 0), x23, x34, x7, x8] ++ (Ad D 2 9 ([x1, x19, x20, ud, x22, x23, x23, x25, x26, x27, x28, x23, x30, ud, x32, x33, x34, x7, x1, x37, x38, (D 15), (D 16), x1, x7, x43, x44, x45, x46, x47, x48, (D 25), x50, x51] ++ (Ad D 28 118 [ud])))).toArray, []⟩) (by kernel_rfl) ?_
       refine wp_join (fun a w => ∃ (D_1 : Nat → Value) (h_10 : Heap), a = ⟨([x0, x1, x2, ud, (D_1 0), x23, x34, x7, x8] ++ (Ad D_1 1 9 ([x1, x19, x20, ud, x22, x23, x23, x25, x26, x27, x28, x23, x30, ud, x32, x33, x34, x7, x1, x37, x38, (D 15), (D 16), x1, x7, x43, x44, x45, x46, x47, x48, (D 25), x50, x51] ++ (Ad D_1 10 85 (Ad D 113 33 [ud]))))).toArray, []⟩ ∧ At w0 w h_10 ∧ betonylaw18_LdiscPlays_j2 R (fun x7' h' => I x7' h' ∧ m x7' h' < m x7 h_6) x23 x34 x7 h_10) ?_ ?_
       ·refine wp_block ?_
        refine wp_seq (lwp_list ?_)
        refine ls_p (d := some 53) (by kernel_rfl) (by kernel_rfl) (p_sEq (by kernel_rfl) (by kernel_rfl) H) (fun x53 H => ?_)
        refine ls_assign (x := x53) (by kernel_rfl) (by kernel_rfl) ?_
        refine ls_nil (then_normal ?_)
        refine fr_eq (b := ⟨([x0, x1, x2, ud, (D 0), x23, x34, x7, x8] ++ (Ad D 2 9 ([x1, x19, x20, ud, x22, x23, x23, x25, x26, x27, x28, x23, x30, ud, x32, x33, x34, x7, x1, x37, x38, (D 15), (D 16), x1, x7, x43, x44, x45, x46, x47, x48, (D 25), x50, x51, x53, x53] ++ (Ad D 30 116 [ud])))).toArray, []⟩) (by kernel_rfl) ?_
        refine wp_if rfl H (fun H => ?_) (fun H => ?_)
        ·refine wp_seq (lwp_list ?_)
         refine ls_assign (x := (.int .i64 0)) (by kernel_rfl) (by kernel_rfl) ?_
         refine ls_nil (then_normal ?_)
         refine fr_eq (b := ⟨([x0, x1, x2, ud, (D 0), x23, x34, x7, x8, (.int .i64 0)] ++ (Ad D 3 8 ([x1, x19, x20, ud, x22, x23, x23, x25, x26, x27, x28, x23, x30, ud, x32, x33, x34, x7, x1, x37, x38, (D 15), (D 16), x1, x7, x43, x44, x45, x46, x47, x48, (D 25), x50, x51, x53, x53] ++ (Ad D 30 116 [ud])))).toArray, []⟩) (by kernel_rfl) ?_
         refine wp_block ?_
         obtain ⟨I_1, m_1, H0, HB⟩ := H
         refine wp_loop (fun a w => ∃ (D_5 : Nat → Value) (x9 : Value) (h_20 : Heap), a = ⟨([x0, x1, x2, ud, (D_5 0), x23, x34, x7, x8, x9, (D_5 1), (D_5 2), (D_5 3)] ++ (Ad D 6 5 ([x1, x19, x20, ud, x22, x23, x23, x25, x26, x27, x28, x23, x30, ud, x32, x33, x34, x7, x1, x37, x38, (D 15), (D 16), x1, x7, x43, x44, x45, x46, x47, x48, (D 25), x50, x51, x53, x53] ++ (Ad D_5 4 36 (Ad D 66 80 [ud]))))).toArray, []⟩ ∧ At w0 w h_20 ∧ I_1 x9 h_20) (fun a w => m_1 (a.tmps.getD 9 ud) w.heap) ?_ ?_
         ·exact ⟨(fun i => ([(D 0), (D 3), (D 4), (D 5)] ++ (Ad D 30 36 [])).getD i ud), (.int .i64 0), h_8, by kernel_rfl, HA_8, H0⟩
         ·rintro _ w_21 ⟨D_5, x9, h_20, rfl, HA_21, HI⟩
          have H : betonylaw18_LdiscPlays_l3 R (fun x7' h' => I x7' h' ∧ m x7' h' < m x7 h_6) x23 x34 x7 x8 (fun x9' h' => I_1 x9' h' ∧ m_1 x9' h' < m_1 x9 h_20) x9 h_20 := HB x9 h_20 HI
          clear HB H0 HI
          unfold betonylaw18_LdiscPlays_l3 at H
          refine wp_seq ?_
          refine wp_seq (lwp_list ?_)
          refine ls_move (x := x9) (by kernel_rfl) (by kernel_rfl) ?_
          refine ls_p (d := some 55) (by kernel_rfl) (by kernel_rfl) (p_off Try.underlying50 rfl (fun w => ⟨_, Try.sizeOf30 w⟩) rfl (by kernel_rfl) H) (fun x55 H => ?_)
          refine ls_y (d := some 56) (by kernel_rfl) (by kernel_rfl) HA_21 (y_ld Try.isAgg30 (by kernel_rfl) H) (fun x56 H => ?_)
          refine ls_p (d := some 57) (by kernel_rfl) (by kernel_rfl) (p_len Try.underlying30 (by kernel_rfl) H) (fun x57 H => ?_)
          refine ls_p (d := some 58) (by kernel_rfl) (by kernel_rfl) (p_sLt (by kernel_rfl) (by kernel_rfl) H) (fun x58 H => ?_)
          refine ls_nil (then_normal ?_)
          refine fr_eq (b := ⟨([x0, x1, x2, ud, (D_5 0), x23, x34, x7, x8, x9, (D_5 1), (D_5 2), (D_5 3)] ++ (Ad D 6 5 ([x1, x19, x20, ud, x22, x23, x23, x25, x26, x27, x28, x23, x30, ud, x32, x33, x34, x7, x1, x37, x38, (D 15), (D 16), x1, x7, x43, x44, x45, x46, x47, x48, (D 25), x50, x51, x53, x53, x9, x55, x56, x57, x58] ++ (Ad D_5 9 31 (Ad D 66 80 [ud]))))).toArray, []⟩) (by kernel_rfl) ?_
          refine wp_if rfl H (fun H => ?_) (fun H => ?_)
          ·refine wp_skip ?_
           refine then_normal ?_
           refine fr_eq (b := ⟨([x0, x1, x2, ud, (D_5 0), x23, x34, x7, x8, x9, (D_5 1), (D_5 2), (D_5 3)] ++ (Ad D 6 5 ([x1, x19, x20, ud, x22, x23, x23, x25, x26, x27, x28, x23, x30, ud, x32, x33, x34, x7, x1, x37, x38, (D 15), (D 16), x1, x7, x43, x44, x45, x46, x47, x48, (D 25), x50, x51, x53, x53, x9, x55, x56, x57, x58] ++ (Ad D_5 9 31 (Ad D 66 80 [ud]))))).toArray, []⟩) (by kernel_rfl) ?_
           refine wp_seq ?_
           refine wp_block ?_
           refine wp_seq (lwp_list ?_)
           refine ls_move (x := x34) (by kernel_rfl) (by kernel_rfl) ?_
           refine ls_p (d := some 62) (by kernel_rfl) (by kernel_rfl) (p_off Try.underlying50 rfl (fun w => ⟨_, Try.sizeOf30 w⟩) rfl (by kernel_rfl) H) (fun x62 H => ?_)
           refine ls_y (d := some 63) (by kernel_rfl) (by kernel_rfl) HA_21 (y_ld Try.isAgg30 (by kernel_rfl) H) (fun x63 H => ?_)
           refine ls_move (x := x9) (by kernel_rfl) (by kernel_rfl) ?_
           refine ls_p (d := some 65) (by kernel_rfl) (by kernel_rfl) (p_ixs Try.underlying30 Try.sizeOf5 (by kernel_rfl) (by kernel_rfl) H) (fun x65 H => ?_)
           refine ls_y (d := some 66) (by kernel_rfl) (by kernel_rfl) HA_21 (y_ld Try.isAgg5 (by kernel_rfl) H) (fun x66 H => ?_)
           refine ls_fr (b := ⟨([x0, x1, x2, ud, (D_5 0), x23, x34, x7, x8, x9, (D_5 1), (D_5 2), (D_5 3)] ++ (Ad D 6 5 (([x1, x19, x20, ud, x22, x23, x23, x25, x26, x27, x28, x23, x30, ud, x32, x33, x34, x7, x1, x37, x38, (D 15), (D 16), x1, x7, x43, x44, x45, x46, x47, x48, (D 25), x50, x51, x53, x53, x9, x55, x56, x57, x58, (D_5 9), (D_5 10), x34, x62, x63, x9, x65] ++ [x66]) ++ (Ad D_5 17 23 (Ad D 66 80 [ud]))))).toArray, []⟩) (by kernel_rfl) ?_
           refine ls_d (d := some 67) (by kernel_rfl) (by kernel_rfl) HA_21 (d_call (by kernel_rfl) (by kernel_rfl) H) (fun x67 h_21 w_22 H HA_22 => ?_)
           refine ls_assign (x := x67) (by kernel_rfl) (by kernel_rfl) ?_
           refine ls_nil (then_normal ?_)
           refine fr_eq (b := ⟨([x0, x1, x2, ud, (D_5 0), x23, x34, x7, x8, x9, x67, (D_5 2), (D_5 3)] ++ (Ad D 6 5 (([x1, x19, x20, ud, x22, x23, x23, x25, x26, x27, x28, x23, x30, ud, x32, x33, x34, x7, x1, x37, x38, (D 15), (D 16), x1, x7, x43, x44, x45, x46, x47, x48, (D 25), x50, x51, x53, x53, x9, x55, x56, x57, x58, (D_5 9), (D_5 10), x34, x62, x63, x9, x65] ++ [x66, x67]) ++ (Ad D_5 18 22 (Ad D 66 80 [ud]))))).toArray, []⟩) (by kernel_rfl) ?_
           refine wp_seq (lwp_list ?_)
           refine ls_move (x := x23) (by kernel_rfl) (by kernel_rfl) ?_
           refine ls_p (d := some 70) (by kernel_rfl) (by kernel_rfl) (p_off Try.underlying50 rfl (fun w => ⟨_, Try.sizeOf30 w⟩) rfl (by kernel_rfl) H) (fun x70 H => ?_)
           refine ls_y (d := some 71) (by kernel_rfl) (by kernel_rfl) HA_22 (y_ld Try.isAgg30 (by kernel_rfl) H) (fun x71 H => ?_)
           refine ls_move (x := x9) (by kernel_rfl) (by kernel_rfl) ?_
           refine ls_p (d := some 73) (by kernel_rfl) (by kernel_rfl) (p_ixs Try.underlying30 Try.sizeOf5 (by kernel_rfl) (by kernel_rfl) H) (fun x73 H => ?_)
           refine ls_y (d := some 74) (by kernel_rfl) (by kernel_rfl) HA_22 (y_ld Try.isAgg5 (by kernel_rfl) H) (fun x74 H => ?_)
           refine ls_fr (b := ⟨([x0, x1, x2, ud, (D_5 0), x23, x34, x7, x8, x9, x67, (D_5 2), (D_5 3)] ++ (Ad D 6 5 (([x1, x19, x20, ud, x22, x23, x23, x25, x26, x27, x28, x23, x30, ud, x32, x33, x34, x7, x1, x37, x38, (D 15), (D 16), x1, x7, x43, x44, x45, x46, x47, x48, (D 25), x50, x51, x53, x53, x9, x55, x56, x57, x58, (D_5 9), (D_5 10), x34, x62, x63, x9, x65] ++ [x66, x67, (D_5 18), x23, x70, x71, x9, x73, x74]) ++ (Ad D_5 25 15 (Ad D 66 80 [ud]))))).toArray, []⟩) (by kernel_rfl) ?_
           refine ls_d (d := some 75) (by kernel_rfl) (by kernel_rfl) HA_22 (d_call (by kernel_rfl) (by kernel_rfl) H) (fun x75 h_22 w_23 H HA_23 => ?_)
           refine ls_move (x := x75) (by kernel_rfl) (by kernel_rfl) ?_
           refine ls_p (d := some 76) (by kernel_rfl) (by kernel_rfl) (p_tup (by kernel_rfl) H) (fun x76 H => ?_)
           refine ls_p (d := some 77) (by kernel_rfl) (by kernel_rfl) (p_tup (by kernel_rfl) H) (fun x77 H => ?_)
           refine ls_assign (x := x76) (by kernel_rfl) (by kernel_rfl) ?_
           refine ls_assign (x := x77) (by kernel_rfl) (by kernel_rfl) ?_
           refine ls_nil (then_normal ?_)
           refine fr_eq (b := ⟨([x0, x1, x2, ud, (D_5 0), x23, x34, x7, x8, x9, x67, x76, x77] ++ (Ad D 6 5 (([x1, x19, x20, ud, x22, x23, x23, x25, x26, x27, x28, x23, x30, ud, x32, x33, x34, x7, x1, x37, x38, (D 15), (D 16), x1, x7, x43, x44, x45, x46, x47, x48, (D 25), x50, x51, x53, x53, x9, x55, x56, x57, x58, (D_5 9), (D_5 10), x34, x62, x63, x9, x65] ++ [x66, x67, x75, x23, x70, x71, x9, x73, x74, x75, x76, x77]) ++ (Ad D_5 28 12 (Ad D 66 80 [ud]))))).toArray, []⟩) (by kernel_rfl) ?_
           refine wp_seq (lwp_list ?_)
           refine ls_move (x := x77) (by kernel_rfl) (by kernel_rfl) ?_
           refine ls_move (x := x67) (by kernel_rfl) (by kernel_rfl) ?_
           refine ls_p (d := some 80) (by kernel_rfl) (by kernel_rfl) (p_sNe (by kernel_rfl) (by kernel_rfl) H) (fun x80 H => ?_)
           refine ls_move (x := x80) (by kernel_rfl) (by kernel_rfl) ?_
           refine ls_orh [(), (), (), (), (), (), (), ()] (fun K a w => ∃ (D_6 : Nat → Value) (x89 : Value) (h_23 : Heap), a = ⟨([x0, x1, x2, ud, (D_5 0), x23, x34, x7, x8, x9, x67, x76, x77] ++ (Ad D 6 5 (([x1, x19, x20, ud, x22, x23, x23, x25, x26, x27, x28, x23, x30, ud, x32, x33, x34, x7, x1, x37, x38, (D 15), (D 16), x1, x7, x43, x44, x45, x46, x47, x48, (D 25), x50, x51, x53, x53, x9, x55, x56, x57, x58, (D_5 9), (D_5 10), x34, x62, x63, x9, x65] ++ [x66, x67, x75, x23, x70, x71, x9, x73, x74, x75, x76, x77, x77, x67, x80, x80]) ++ (Ad D_6 0 7 ([x89] ++ (Ad D 66 80 [ud])))))).toArray, []⟩ ∧ At w0 w h_23 ∧ K x89 h_23) H (fun hb_3 H => ?_) (fun hb_3 H => ?_) ?_
           ·refine ls_move (x := x76) (by rw [hb_3]; kernel_rfl) (by kernel_rfl) ?_
            refine ls_move (x := x34) (by rw [hb_3]; kernel_rfl) (by kernel_rfl) ?_
            refine ls_fr (b := ⟨([x0, x1, x2, ud, (D_5 0), x23, x34, x7, x8, x9, x67, x76, x77] ++ (Ad D 6 5 (([x1, x19, x20, ud, x22, x23, x23, x25, x26, x27, x28, x23, x30, ud, x32, x33, x34, x7, x1, x37, x38, (D 15), (D 16), x1, x7, x43, x44, x45, x46, x47, x48, (D 25), x50, x51, x53, x53, x9, x55, x56, x57, x58, (D_5 9), (D_5 10), x34, x62, x63, x9, x65] ++ [x66, x67, x75, x23, x70, x71, x9, x73, x74, x75, x76, x77, x77, x67, x80, x80, x76, x34]) ++ (Ad D_5 34 6 (Ad D 66 80 [ud]))))).toArray, []⟩) (by kernel_rfl) ?_
            refine ls_p (d := some 84) (by kernel_rfl) (by rw [hb_3]; kernel_rfl) (p_nil (by kernel_rfl) H) (fun x84 H => ?_)
            refine ls_p (d := some 85) (by kernel_rfl) (by rw [hb_3]; kernel_rfl) (p_off Try.underlying48 rfl (fun w => ⟨_, Try.sizeOf30 w⟩) rfl (by kernel_rfl) H) (fun x85 H => ?_)
            refine ls_y (d := some 86) (by kernel_rfl) (by rw [hb_3]; kernel_rfl) HA_23 (y_ld Try.isAgg30 (by kernel_rfl) H) (fun x86 H => ?_)
            refine ls_d (d := some 87) (by kernel_rfl) (by rw [hb_3]; kernel_rfl) HA_23 (d_call (by kernel_rfl) (by kernel_rfl) H) (fun x87 h_24 w_25 H HA_25 => ?_)
            refine ls_p (d := some 88) (by kernel_rfl) (by rw [hb_3]; kernel_rfl) (p_not (by kernel_rfl) H) (fun x88 H => ?_)
            refine ls_pick_f (y := x88) (by kernel_rfl) (by rw [hb_3]; kernel_rfl) (by kernel_rfl) ?_
            refine ls_nil (then_normal ?_)
            exact ⟨(fun i => ([x76, x34, x84, x85, x86, x87, x88]).getD i ud), x88, h_24, by kernel_rfl, HA_25, H⟩
           ·refine ls_skip (d := some 82) (by kernel_rfl) (by rw [hb_3]; kernel_rfl) ?_
            refine ls_skip (d := some 83) (by kernel_rfl) (by rw [hb_3]; kernel_rfl) ?_
            refine ls_fr (b := ⟨([x0, x1, x2, ud, (D_5 0), x23, x34, x7, x8, x9, x67, x76, x77] ++ (Ad D 6 5 (([x1, x19, x20, ud, x22, x23, x23, x25, x26, x27, x28, x23, x30, ud, x32, x33, x34, x7, x1, x37, x38, (D 15), (D 16), x1, x7, x43, x44, x45, x46, x47, x48, (D 25), x50, x51, x53, x53, x9, x55, x56, x57, x58, (D_5 9), (D_5 10), x34, x62, x63, x9, x65] ++ [x66, x67, x75, x23, x70, x71, x9, x73, x74, x75, x76, x77, x77, x67, x80, x80, ud, ud]) ++ (Ad D_5 34 6 (Ad D 66 80 [ud]))))).toArray, []⟩) (by kernel_rfl) ?_
            refine ls_skip (d := some 84) (by kernel_rfl) (by rw [hb_3]; kernel_rfl) ?_
            refine ls_skip (d := some 85) (by kernel_rfl) (by rw [hb_3]; kernel_rfl) ?_
            refine ls_skip (d := some 86) (by kernel_rfl) (by rw [hb_3]; kernel_rfl) ?_
            refine ls_skip (d := some 87) (by kernel_rfl) (by rw [hb_3]; kernel_rfl) ?_
            refine ls_skip (d := some 88) (by kernel_rfl) (by rw [hb_3]; kernel_rfl) ?_
            refine ls_pick_t (x := (.bool true)) (by kernel_rfl) (by rw [hb_3]; kernel_rfl) (by kernel_rfl) ?_
            refine ls_nil (then_normal ?_)
            exact ⟨(fun i => (Ap [] 7).getD i ud), (.bool true), h_22, by kernel_rfl, HA_23, H⟩
           ·rintro _ w_24 ⟨D_6, x89, h_23, rfl, HA_24, H⟩
            refine ls_nil (then_normal ?_)
            refine fr_eq (b := ⟨([x0, x1, x2, ud, (D_5 0), x23, x34, x7, x8, x9, x67, x76, x77] ++ (Ad D 6 5 (([x1, x19, x20, ud, x22, x23, x23, x25, x26, x27, x28, x23, x30, ud, x32, x33, x34, x7, x1, x37, x38, (D 15), (D 16), x1, x7, x43, x44, x45, x46, x47, x48, (D 25), x50, x51, x53, x53, x9, x55, x56, x57, x58, (D_5 9), (D_5 10), x34, x62, x63, x9, x65] ++ [x66, x67, x75, x23, x70, x71, x9, x73, x74, x75, x76, x77, x77, x67, x80, x80]) ++ (Ad D_6 0 7 ([x89] ++ (Ad D 66 80 [ud])))))).toArray, []⟩) (by kernel_rfl) ?_
            refine wp_if rfl H (fun H => ?_) (fun H => ?_)
            ·refine wp_seq (lwp_list ?_)
             refine ls_assign (x := (.bool false)) (by kernel_rfl) (by kernel_rfl) ?_
             refine ls_nil (then_normal ?_)
             refine fr_eq (b := ⟨([x0, x1, x2, ud, (.bool false), x23, x34, x7, x8, x9, x67, x76, x77] ++ (Ad D 6 5 (([x1, x19, x20, ud, x22, x23, x23, x25, x26, x27, x28, x23, x30, ud, x32, x33, x34, x7, x1, x37, x38, (D 15), (D 16), x1, x7, x43, x44, x45, x46, x47, x48, (D 25), x50, x51, x53, x53, x9, x55, x56, x57, x58, (D_5 9), (D_5 10), x34, x62, x63, x9, x65] ++ [x66, x67, x75, x23, x70, x71, x9, x73, x74, x75, x76, x77, x77, x67, x80, x80]) ++ (Ad D_6 0 7 ([x89] ++ (Ad D 66 80 [ud])))))).toArray, []⟩) (by kernel_rfl) ?_
             refine wp_ret ?_
             refine block_ret ?_
             refine then_ret ?_
             refine then_ret ?_
             refine block_ret ?_
             refine block_ret ?_
             refine then_ret ?_
             refine then_ret ?_
             refine block_ret ?_
             refine then_ret ?_
             refine then_ret ?_
             refine block_ret ?_
             refine then_ret ?_
             exact end1 (Try.results8) (by kernel_rfl) (by kernel_rfl) HA_24 H _ (.inr rfl)
            ·refine wp_skip ?_
             refine block_normal ?_
             refine then_normal ?_
             refine fr_eq (b := ⟨([x0, x1, x2, ud, (D_5 0), x23, x34, x7, x8, x9, x67, x76, x77] ++ (Ad D 6 5 (([x1, x19, x20, ud, x22, x23, x23, x25, x26, x27, x28, x23, x30, ud, x32, x33, x34, x7, x1, x37, x38, (D 15), (D 16), x1, x7, x43, x44, x45, x46, x47, x48, (D 25), x50, x51, x53, x53, x9, x55, x56, x57, x58, (D_5 9), (D_5 10), x34, x62, x63, x9, x65] ++ [x66, x67, x75, x23, x70, x71, x9, x73, x74, x75, x76, x77, x77, x67, x80, x80]) ++ (Ad D_6 0 7 ([x89] ++ (Ad D 66 80 [ud])))))).toArray, []⟩) (by kernel_rfl) ?_
             refine lwp_list ?_
             refine ls_move (x := x9) (by kernel_rfl) (by kernel_rfl) ?_
             refine ls_p (d := some 60) (by kernel_rfl) (by kernel_rfl) (p_add (by kernel_rfl) (by kernel_rfl) H) (fun x60 H => ?_)
             refine ls_assign (x := x60) (by kernel_rfl) (by kernel_rfl) ?_
             refine ls_nil ?_
             exact ⟨⟨(fun i => ([(D_5 0), x67, x76, x77, x9, x55, x56, x57, x58, x9, x60, x34, x62, x63, x9, x65, x66, x67, x75, x23, x70, x71, x9, x73, x74, x75, x76, x77, x77, x67, x80, x80] ++ (Ad D_6 0 7 [x89])).getD i ud), x60, h_23, by kernel_rfl, HA_24, H.1⟩, loop_lt HA_24.heap HA_21.heap (by kernel_rfl) (by kernel_rfl) H.2⟩
          ·refine wp_exit ?_
           refine then_exit ?_
           refine then_exit ?_
           refine block_exit ?_
           refine block_normal ?_
           exact ⟨(fun i => ([(D_5 0), x9, (D_5 1), (D_5 2), (D_5 3)] ++ (Ad D 6 5 ([x53, x53, x9, x55, x56, x57, x58] ++ (Ad D_5 9 31 (Ad D 66 47 []))))).getD i ud), h_20, by kernel_rfl, HA_21, H⟩
        ·refine wp_seq (lwp_list ?_)
         refine ls_p (d := some 91) (by kernel_rfl) (by kernel_rfl) (p_sEq (by kernel_rfl) (by kernel_rfl) H) (fun x91 H => ?_)
         refine ls_assign (x := x91) (by kernel_rfl) (by kernel_rfl) ?_
         refine ls_nil (then_normal ?_)
         refine fr_eq (b := ⟨([x0, x1, x2, ud, (D 0), x23, x34, x7, x8] ++ (Ad D 2 9 ([x1, x19, x20, ud, x22, x23, x23, x25, x26, x27, x28, x23, x30, ud, x32, x33, x34, x7, x1, x37, x38, (D 15), (D 16), x1, x7, x43, x44, x45, x46, x47, x48, (D 25), x50, x51, x53, x53] ++ (Ad D 30 36 ([x91, x91] ++ (Ad D 68 78 [ud])))))).toArray, []⟩) (by kernel_rfl) ?_
         refine wp_if rfl H (fun H => ?_) (fun H => ?_)
         ·refine wp_seq (lwp_list ?_)
          refine ls_move (x := x34) (by kernel_rfl) (by kernel_rfl) ?_
          refine ls_p (d := some 94) (by kernel_rfl) (by kernel_rfl) (p_off Try.underlying50 rfl (fun w => ⟨_, Try.sizeOf3 w⟩) rfl (by kernel_rfl) H) (fun x94 H => ?_)
          refine ls_y (d := some 95) (by kernel_rfl) (by kernel_rfl) HA_8 (y_ld Try.isAgg3 (by kernel_rfl) H) (fun x95 H => ?_)
          refine ls_d (d := some 96) (by kernel_rfl) (by kernel_rfl) HA_8 (d_call (by kernel_rfl) (by kernel_rfl) H) (fun x96 h_25 w_26 H HA_26 => ?_)
          refine ls_move (x := x96) (by kernel_rfl) (by kernel_rfl) ?_
          refine ls_p (d := some 97) (by kernel_rfl) (by kernel_rfl) (p_tup (by kernel_rfl) H) (fun x97 H => ?_)
          refine ls_fr (b := ⟨([x0, x1, x2, ud, (D 0), x23, x34, x7, x8] ++ (Ad D 2 9 ([x1, x19, x20, ud, x22, x23, x23, x25, x26, x27, x28, x23, x30, ud, x32, x33, x34, x7, x1, x37, x38, (D 15), (D 16), x1, x7, x43, x44, x45, x46, x47, x48, (D 25), x50, x51, x53, x53] ++ (Ad D 30 36 ([x91, x91, x96, x34, x94, x95, x96, x97] ++ (Ad D 74 72 [ud])))))).toArray, []⟩) (by kernel_rfl) ?_
          refine ls_p (d := some 98) (by kernel_rfl) (by kernel_rfl) (p_tup (by kernel_rfl) H) (fun x98 H => ?_)
          refine ls_assign (x := x97) (by kernel_rfl) (by kernel_rfl) ?_
          refine ls_assign (x := x98) (by kernel_rfl) (by kernel_rfl) ?_
          refine ls_nil (then_normal ?_)
          refine fr_eq (b := ⟨([x0, x1, x2, ud, (D 0), x23, x34, x7, x8] ++ (Ad D 2 4 ([x97, x98, (D 8), (D 9), (D 10), x1, x19, x20, ud, x22, x23, x23, x25, x26, x27, x28, x23, x30, ud, x32, x33, x34, x7, x1, x37, x38, (D 15), (D 16), x1, x7, x43, x44, x45, x46, x47, x48, (D 25), x50, x51, x53, x53] ++ (Ad D 30 36 ([x91, x91, x96, x34, x94, x95, x96, x97, x98] ++ (Ad D 75 71 [ud])))))).toArray, []⟩) (by kernel_rfl) ?_
          refine wp_seq (lwp_list ?_)
          refine ls_move (x := x23) (by kernel_rfl) (by kernel_rfl) ?_
          refine ls_p (d := some 101) (by kernel_rfl) (by kernel_rfl) (p_off Try.underlying50 rfl (fun w => ⟨_, Try.sizeOf3 w⟩) rfl (by kernel_rfl) H) (fun x101 H => ?_)
          refine ls_y (d := some 102) (by kernel_rfl) (by kernel_rfl) HA_26 (y_ld Try.isAgg3 (by kernel_rfl) H) (fun x102 H => ?_)
          refine ls_d (d := some 103) (by kernel_rfl) (by kernel_rfl) HA_26 (d_call (by kernel_rfl) (by kernel_rfl) H) (fun x103 h_26 w_27 H HA_27 => ?_)
          refine ls_move (x := x103) (by kernel_rfl) (by kernel_rfl) ?_
          refine ls_p (d := some 104) (by kernel_rfl) (by kernel_rfl) (p_tup (by kernel_rfl) H) (fun x104 H => ?_)
          refine ls_fr (b := ⟨([x0, x1, x2, ud, (D 0), x23, x34, x7, x8] ++ (Ad D 2 4 ([x97, x98, (D 8), (D 9), (D 10), x1, x19, x20, ud, x22, x23, x23, x25, x26, x27, x28, x23, x30, ud, x32, x33, x34, x7, x1, x37, x38, (D 15), (D 16), x1, x7, x43, x44, x45, x46, x47, x48, (D 25), x50, x51, x53, x53] ++ (Ad D 30 36 ([x91, x91, x96, x34, x94, x95, x96, x97, x98, x103, x23, x101, x102, x103, x104] ++ (Ad D 81 65 [ud])))))).toArray, []⟩) (by kernel_rfl) ?_
          refine ls_p (d := some 105) (by kernel_rfl) (by kernel_rfl) (p_tup (by kernel_rfl) H) (fun x105 H => ?_)
          refine ls_assign (x := x104) (by kernel_rfl) (by kernel_rfl) ?_
          refine ls_assign (x := x105) (by kernel_rfl) (by kernel_rfl) ?_
          refine ls_nil (then_normal ?_)
          refine fr_eq (b := ⟨([x0, x1, x2, ud, (D 0), x23, x34, x7, x8] ++ (Ad D 2 4 ([x97, x98, x104, x105, (D 10), x1, x19, x20, ud, x22, x23, x23, x25, x26, x27, x28, x23, x30, ud, x32, x33, x34, x7, x1, x37, x38, (D 15), (D 16), x1, x7, x43, x44, x45, x46, x47, x48, (D 25), x50, x51, x53, x53] ++ (Ad D 30 36 ([x91, x91, x96, x34, x94, x95, x96, x97, x98, x103, x23, x101, x102, x103, x104, x105] ++ (Ad D 82 64 [ud])))))).toArray, []⟩) (by kernel_rfl) ?_
          refine wp_seq (lwp_list ?_)
          refine ls_move (x := x97) (by kernel_rfl) (by kernel_rfl) ?_
          refine ls_move (x := x104) (by kernel_rfl) (by kernel_rfl) ?_
          refine ls_d (d := some 108) (by kernel_rfl) (by kernel_rfl) HA_27 (d_call (by kernel_rfl) (by kernel_rfl) H) (fun x108 h_27 w_28 H HA_28 => ?_)
          refine ls_p (d := some 109) (by kernel_rfl) (by kernel_rfl) (p_not (by kernel_rfl) H) (fun x109 H => ?_)
          refine ls_move (x := x109) (by kernel_rfl) (by kernel_rfl) ?_
          refine ls_or [(), (), (), ()] (fun K a w => ∃ (D_7 : Nat → Value) (x114 : Value), a = ⟨([x0, x1, x2, ud, (D 0), x23, x34, x7, x8] ++ (Ad D 2 4 ([x97, x98, x104, x105, (D 10), x1, x19, x20, ud, x22, x23, x23, x25, x26, x27, x28, x23, x30, ud, x32, x33, x34, x7, x1, x37, x38, (D 15), (D 16), x1, x7, x43, x44, x45, x46, x47, x48, (D 25), x50, x51, x53, x53] ++ (Ad D 30 36 ([x91, x91, x96, x34, x94, x95, x96, x97, x98, x103, x23, x101, x102, x103, x104, x105, x97, x104, x108, x109, x109, (D_7 0), (D_7 1), (D_7 2), x114] ++ (Ad D 91 55 [ud])))))).toArray, []⟩ ∧ At w0 w h_27 ∧ K x114) H (fun hb_4 H => ?_) (fun hb_4 H => ?_) ?_
          ·refine ls_move (x := x98) (by rw [hb_4]; kernel_rfl) (by kernel_rfl) ?_
           refine ls_fr (b := ⟨([x0, x1, x2, ud, (D 0), x23, x34, x7, x8] ++ (Ad D 2 4 ([x97, x98, x104, x105, (D 10), x1, x19, x20, ud, x22, x23, x23, x25, x26, x27, x28, x23, x30, ud, x32, x33, x34, x7, x1, x37, x38, (D 15), (D 16), x1, x7, x43, x44, x45, x46, x47, x48, (D 25), x50, x51, x53, x53] ++ (Ad D 30 36 ([x91, x91, x96, x34, x94, x95, x96, x97, x98, x103, x23, x101, x102, x103, x104, x105, x97, x104, x108, x109, x109, x98] ++ (Ad D 88 58 [ud])))))).toArray, []⟩) (by kernel_rfl) ?_
           refine ls_move (x := x105) (by rw [hb_4]; kernel_rfl) (by kernel_rfl) ?_
           refine ls_p (d := some 113) (by kernel_rfl) (by rw [hb_4]; kernel_rfl) (p_neqB Try.underlying4 (by kernel_rfl) (by kernel_rfl) H) (fun x113 H => ?_)
           refine ls_pick_f (y := x113) (by kernel_rfl) (by rw [hb_4]; kernel_rfl) (by kernel_rfl) ?_
           refine ls_nil (then_normal ?_)
           exact ⟨(fun i => ([x98, x105, x113]).getD i ud), x113, by kernel_rfl, HA_28, H⟩
          ·refine ls_skip (d := some 111) (by kernel_rfl) (by rw [hb_4]; kernel_rfl) ?_
           refine ls_fr (b := ⟨([x0, x1, x2, ud, (D 0), x23, x34, x7, x8] ++ (Ad D 2 4 ([x97, x98, x104, x105, (D 10), x1, x19, x20, ud, x22, x23, x23, x25, x26, x27, x28, x23, x30, ud, x32, x33, x34, x7, x1, x37, x38, (D 15), (D 16), x1, x7, x43, x44, x45, x46, x47, x48, (D 25), x50, x51, x53, x53] ++ (Ad D 30 36 ([x91, x91, x96, x34, x94, x95, x96, x97, x98, x103, x23, x101, x102, x103, x104, x105, x97, x104, x108, x109, x109, ud] ++ (Ad D 88 58 [ud])))))).toArray, []⟩) (by kernel_rfl) ?_
           refine ls_skip (d := some 112) (by kernel_rfl) (by rw [hb_4]; kernel_rfl) ?_
           refine ls_skip (d := some 113) (by kernel_rfl) (by rw [hb_4]; kernel_rfl) ?_
           refine ls_pick_t (x := (.bool true)) (by kernel_rfl) (by rw [hb_4]; kernel_rfl) (by kernel_rfl) ?_
           refine ls_nil (then_normal ?_)
           exact ⟨(fun i => ([ud, ud, ud]).getD i ud), (.bool true), by kernel_rfl, HA_28, H⟩
          ·rintro _ w_29 ⟨D_7, x114, rfl, HA_29, H⟩
           refine ls_nil (then_normal ?_)
           refine fr_eq (b := ⟨([x0, x1, x2, ud, (D 0), x23, x34, x7, x8] ++ (Ad D 2 4 ([x97, x98, x104, x105, (D 10), x1, x19, x20, ud, x22, x23, x23, x25, x26, x27, x28, x23, x30, ud, x32, x33, x34, x7, x1, x37, x38, (D 15), (D 16), x1, x7, x43, x44, x45, x46, x47, x48, (D 25), x50, x51, x53, x53] ++ (Ad D 30 36 ([x91, x91, x96, x34, x94, x95, x96, x97, x98, x103, x23, x101, x102, x103, x104, x105, x97, x104, x108, x109, x109, (D_7 0), (D_7 1), (D_7 2), x114] ++ (Ad D 91 55 [ud])))))).toArray, []⟩) (by kernel_rfl) ?_
           refine wp_if rfl H (fun H => ?_) (fun H => ?_)
           ·refine wp_seq (lwp_list ?_)
            refine ls_assign (x := (.bool false)) (by kernel_rfl) (by kernel_rfl) ?_
            refine ls_nil (then_normal ?_)
            refine fr_eq (b := ⟨([x0, x1, x2, ud, (.bool false), x23, x34, x7, x8] ++ (Ad D 2 4 ([x97, x98, x104, x105, (D 10), x1, x19, x20, ud, x22, x23, x23, x25, x26, x27, x28, x23, x30, ud, x32, x33, x34, x7, x1, x37, x38, (D 15), (D 16), x1, x7, x43, x44, x45, x46, x47, x48, (D 25), x50, x51, x53, x53] ++ (Ad D 30 36 ([x91, x91, x96, x34, x94, x95, x96, x97, x98, x103, x23, x101, x102, x103, x104, x105, x97, x104, x108, x109, x109, (D_7 0), (D_7 1), (D_7 2), x114] ++ (Ad D 91 55 [ud])))))).toArray, []⟩) (by kernel_rfl) ?_
            refine wp_ret ?_
            refine block_ret ?_
            refine then_ret ?_
            refine then_ret ?_
            refine block_ret ?_
            refine then_ret ?_
            refine then_ret ?_
            refine block_ret ?_
            refine then_ret ?_
            exact end1 (Try.results8) (by kernel_rfl) (by kernel_rfl) HA_29 H _ (.inr rfl)
           ·refine wp_skip ?_
            refine block_normal ?_
            exact ⟨(fun i => ([(D 0)] ++ (Ad D 2 4 ([x97, x98, x104, x105, (D 10), x53, x53] ++ (Ad D 30 36 ([x91, x91, x96, x34, x94, x95, x96, x97, x98, x103, x23, x101, x102, x103, x104, x105, x97, x104, x108, x109, x109, (D_7 0), (D_7 1), (D_7 2), x114] ++ (Ad D 91 22 [])))))).getD i ud), h_27, by kernel_rfl, HA_29, H⟩
         ·refine wp_seq (lwp_list ?_)
          refine ls_p (d := some 116) (by kernel_rfl) (by kernel_rfl) (p_sEq (by kernel_rfl) (by kernel_rfl) H) (fun x116 H => ?_)
          refine ls_assign (x := x116) (by kernel_rfl) (by kernel_rfl) ?_
          refine ls_nil (then_normal ?_)
          refine fr_eq (b := ⟨([x0, x1, x2, ud, (D 0), x23, x34, x7, x8] ++ (Ad D 2 9 ([x1, x19, x20, ud, x22, x23, x23, x25, x26, x27, x28, x23, x30, ud, x32, x33, x34, x7, x1, x37, x38, (D 15), (D 16), x1, x7, x43, x44, x45, x46, x47, x48, (D 25), x50, x51, x53, x53] ++ (Ad D 30 36 ([x91, x91] ++ (Ad D 68 23 ([x116, x116] ++ (Ad D 93 53 [ud])))))))).toArray, []⟩) (by kernel_rfl) ?_
          refine wp_if rfl H (fun H => ?_) (fun H => ?_)
          ·refine wp_seq (lwp_list ?_)
           refine ls_p (d := some 117) (by kernel_rfl) (by kernel_rfl) (p_off Try.underlying50 rfl (fun w => ⟨_, Try.sizeOf28 w⟩) rfl (by kernel_rfl) H) (fun x117 H => ?_)
           refine ls_y (d := some 118) (by kernel_rfl) (by kernel_rfl) HA_8 (y_ldn Try.isAgg28 Try.sizeOf28 (by kernel_rfl) H) (fun x118 H => ?_)
           refine ls_d (d := some 119) (by kernel_rfl) (by kernel_rfl) HA_8 (d_call (by kernel_rfl) (by kernel_rfl) H) (fun x119 h_28 w_30 H HA_30 => ?_)
           refine ls_assign (x := x119) (by kernel_rfl) (by kernel_rfl) ?_
           refine ls_nil (then_normal ?_)
           refine fr_eq (b := ⟨([x0, x1, x2, ud, (D 0), x23, x34, x7, x8] ++ (Ad D 2 8 ([x119, x1, x19, x20, ud, x22, x23, x23, x25, x26, x27, x28, x23, x30, ud, x32, x33, x34, x7, x1, x37, x38, (D 15), (D 16), x1, x7, x43, x44, x45, x46, x47, x48, (D 25), x50, x51, x53, x53] ++ (Ad D 30 36 ([x91, x91] ++ (Ad D 68 23 ([x116, x116, x117, x118, x119] ++ (Ad D 96 50 [ud])))))))).toArray, []⟩) (by kernel_rfl) ?_
           refine wp_seq ?_
           refine wp_seq (lwp_list ?_)
           refine ls_move (x := x23) (by kernel_rfl) (by kernel_rfl) ?_
           refine ls_p (d := some 121) (by kernel_rfl) (by kernel_rfl) (p_off Try.underlying50 rfl (fun w => ⟨_, Try.sizeOf28 w⟩) rfl (by kernel_rfl) H) (fun x121 H => ?_)
           refine ls_y (d := some 122) (by kernel_rfl) (by kernel_rfl) HA_30 (y_ldn Try.isAgg28 Try.sizeOf28 (by kernel_rfl) H) (fun x122 H => ?_)
           refine ls_d (d := some 123) (by kernel_rfl) (by kernel_rfl) HA_30 (d_call (by kernel_rfl) (by kernel_rfl) H) (fun x123 h_29 w_31 H HA_31 => ?_)
           refine ls_move (x := x119) (by kernel_rfl) (by kernel_rfl) ?_
           refine ls_p (d := some 125) (by kernel_rfl) (by kernel_rfl) (p_neqB Try.underlying4 (by kernel_rfl) (by kernel_rfl) H) (fun x125 H => ?_)
           refine ls_nil (then_normal ?_)
           refine fr_eq (b := ⟨([x0, x1, x2, ud, (D 0), x23, x34, x7, x8] ++ (Ad D 2 8 ([x119, x1, x19, x20, ud, x22, x23, x23, x25, x26, x27, x28, x23, x30, ud, x32, x33, x34, x7, x1, x37, x38, (D 15), (D 16), x1, x7, x43, x44, x45, x46, x47, x48, (D 25), x50, x51, x53, x53] ++ (Ad D 30 36 ([x91, x91] ++ (Ad D 68 23 ([x116, x116, x117, x118, x119, x23, x121, x122, x123, x119, x125] ++ (Ad D 102 44 [ud])))))))).toArray, []⟩) (by kernel_rfl) ?_
           refine wp_if rfl H (fun H => ?_) (fun H => ?_)
           ·refine wp_seq (lwp_list ?_)
            refine ls_assign (x := (.bool false)) (by kernel_rfl) (by kernel_rfl) ?_
            refine ls_nil (then_normal ?_)
            refine fr_eq (b := ⟨([x0, x1, x2, ud, (.bool false), x23, x34, x7, x8] ++ (Ad D 2 8 ([x119, x1, x19, x20, ud, x22, x23, x23, x25, x26, x27, x28, x23, x30, ud, x32, x33, x34, x7, x1, x37, x38, (D 15), (D 16), x1, x7, x43, x44, x45, x46, x47, x48, (D 25), x50, x51, x53, x53] ++ (Ad D 30 36 ([x91, x91] ++ (Ad D 68 23 ([x116, x116, x117, x118, x119, x23, x121, x122, x123, x119, x125] ++ (Ad D 102 44 [ud])))))))).toArray, []⟩) (by kernel_rfl) ?_
            refine wp_ret ?_
            refine then_ret ?_
            refine block_ret ?_
            refine then_ret ?_
            refine then_ret ?_
            refine block_ret ?_
            refine then_ret ?_
            refine then_ret ?_
            refine block_ret ?_
            refine then_ret ?_
            exact end1 (Try.results8) (by kernel_rfl) (by kernel_rfl) HA_31 H _ (.inr rfl)
           ·refine wp_skip ?_
            refine then_normal ?_
            refine fr_eq (b := ⟨([x0, x1, x2, ud, (D 0), x23, x34, x7, x8] ++ (Ad D 2 8 ([x119, x1, x19, x20, ud, x22, x23, x23, x25, x26, x27, x28, x23, x30, ud, x32, x33, x34, x7, x1, x37, x38, (D 15), (D 16), x1, x7, x43, x44, x45, x46, x47, x48, (D 25), x50, x51, x53, x53] ++ (Ad D 30 36 ([x91, x91] ++ (Ad D 68 23 ([x116, x116, x117, x118, x119, x23, x121, x122, x123, x119, x125] ++ (Ad D 102 44 [ud])))))))).toArray, []⟩) (by kernel_rfl) ?_
            refine wp_seq (lwp_list ?_)
            refine ls_move (x := x119) (by kernel_rfl) (by kernel_rfl) ?_
            refine ls_nil (then_normal ?_)
            refine fr_eq (b := ⟨([x0, x1, x2, ud, (D 0), x23, x34, x7, x8] ++ (Ad D 2 8 ([x119, x1, x19, x20, ud, x22, x23, x23, x25, x26, x27, x28, x23, x30, ud, x32, x33, x34, x7, x1, x37, x38, (D 15), (D 16), x1, x7, x43, x44, x45, x46, x47, x48, (D 25), x50, x51, x53, x53] ++ (Ad D 30 36 ([x91, x91] ++ (Ad D 68 23 ([x116, x116, x117, x118, x119, x23, x121, x122, x123, x119, x125, x119] ++ (Ad D 103 43 [ud])))))))).toArray, []⟩) (by kernel_rfl) ?_
            refine wp_if rfl H (fun H => ?_) (fun H => ?_)
            ·refine lwp_list ?_
             refine ls_move (x := x34) (by kernel_rfl) (by kernel_rfl) ?_
             refine ls_p (d := some 128) (by kernel_rfl) (by kernel_rfl) (p_off Try.underlying50 rfl (fun w => ⟨_, Try.sizeOf28 w⟩) rfl (by kernel_rfl) H) (fun x128 H => ?_)
             refine ls_y (d := some 129) (by kernel_rfl) (by kernel_rfl) HA_31 (y_ldn Try.isAgg28 Try.sizeOf28 (by kernel_rfl) H) (fun x129 H => ?_)
             refine ls_d (d := some 130) (by kernel_rfl) (by kernel_rfl) HA_31 (d_call (by kernel_rfl) (by kernel_rfl) H) (fun x130 h_30 w_32 H HA_32 => ?_)
             refine ls_nil ?_
             refine block_normal ?_
             exact ⟨(fun i => ([(D 0)] ++ (Ad D 2 8 ([x119, x53, x53] ++ (Ad D 30 36 ([x91, x91] ++ (Ad D 68 23 ([x116, x116, x117, x118, x119, x23, x121, x122, x123, x119, x125, x119, x34, x128, x129, x130] ++ (Ad D 107 6 [])))))))).getD i ud), h_30, by kernel_rfl, HA_32, H⟩
            ·refine wp_skip ?_
             refine block_normal ?_
             exact ⟨(fun i => ([(D 0)] ++ (Ad D 2 8 ([x119, x53, x53] ++ (Ad D 30 36 ([x91, x91] ++ (Ad D 68 23 ([x116, x116, x117, x118, x119, x23, x121, x122, x123, x119, x125, x119] ++ (Ad D 103 10 [])))))))).getD i ud), h_29, by kernel_rfl, HA_31, H⟩
          ·refine wp_seq (lwp_list ?_)
           refine ls_p (d := some 132) (by kernel_rfl) (by kernel_rfl) (p_sEq (by kernel_rfl) (by kernel_rfl) H) (fun x132 H => ?_)
           refine ls_assign (x := x132) (by kernel_rfl) (by kernel_rfl) ?_
           refine ls_nil (then_normal ?_)
           refine fr_eq (b := ⟨([x0, x1, x2, ud, (D 0), x23, x34, x7, x8] ++ (Ad D 2 9 ([x1, x19, x20, ud, x22, x23, x23, x25, x26, x27, x28, x23, x30, ud, x32, x33, x34, x7, x1, x37, x38, (D 15), (D 16), x1, x7, x43, x44, x45, x46, x47, x48, (D 25), x50, x51, x53, x53] ++ (Ad D 30 36 ([x91, x91] ++ (Ad D 68 23 ([x116, x116] ++ (Ad D 93 14 ([x132, x132] ++ (Ad D 109 37 [ud])))))))))).toArray, []⟩) (by kernel_rfl) ?_
           refine wp_if rfl H (fun H => ?_) (fun H => ?_)
           ·refine wp_seq (lwp_list ?_)
            refine ls_move (x := x23) (by kernel_rfl) (by kernel_rfl) ?_
            refine ls_d (d := some 134) (by kernel_rfl) (by kernel_rfl) HA_8 (d_call (by kernel_rfl) (by kernel_rfl) H) (fun x134 h_31 w_33 H HA_33 => ?_)
            refine ls_nil (then_normal ?_)
            refine fr_eq (b := ⟨([x0, x1, x2, ud, (D 0), x23, x34, x7, x8] ++ (Ad D 2 9 ([x1, x19, x20, ud, x22, x23, x23, x25, x26, x27, x28, x23, x30, ud, x32, x33, x34, x7, x1, x37, x38, (D 15), (D 16), x1, x7, x43, x44, x45, x46, x47, x48, (D 25), x50, x51, x53, x53] ++ (Ad D 30 36 ([x91, x91] ++ (Ad D 68 23 ([x116, x116] ++ (Ad D 93 14 ([x132, x132, x23, x134] ++ (Ad D 111 35 [ud])))))))))).toArray, []⟩) (by kernel_rfl) ?_
            refine lwp_list ?_
            refine ls_move (x := x34) (by kernel_rfl) (by kernel_rfl) ?_
            refine ls_d (d := some 136) (by kernel_rfl) (by kernel_rfl) HA_33 (d_call (by kernel_rfl) (by kernel_rfl) H) (fun x136 h_32 w_34 H HA_34 => ?_)
            refine ls_nil ?_
            refine block_normal ?_
            exact ⟨(fun i => ([(D 0)] ++ (Ad D 2 9 ([x53, x53] ++ (Ad D 30 36 ([x91, x91] ++ (Ad D 68 23 ([x116, x116] ++ (Ad D 93 14 [x132, x132, x23, x134, x34, x136])))))))).getD i ud), h_32, by kernel_rfl, HA_34, H⟩
           ·refine wp_skip ?_
            refine block_normal ?_
            exact ⟨(fun i => ([(D 0)] ++ (Ad D 2 9 ([x53, x53] ++ (Ad D 30 36 ([x91, x91] ++ (Ad D 68 23 ([x116, x116] ++ (Ad D 93 14 ([x132, x132] ++ (Ad D 109 4 [])))))))))).getD i ud), h_8, by kernel_rfl, HA_8, H⟩
       ·rintro _ w_10 ⟨D_1, h_10, rfl, HA_10, H⟩
        unfold betonylaw18_LdiscPlays_j2 at H
        refine then_normal ?_
        refine fr_eq (b := ⟨([x0, x1, x2, ud, (D_1 0), x23, x34, x7, x8] ++ (Ad D_1 1 9 ([x1, x19, x20, ud, x22, x23, x23, x25, x26, x27, x28, x23, x30, ud, x32, x33, x34, x7, x1, x37, x38, (D 15), (D 16), x1, x7, x43, x44, x45, x46, x47, x48, (D 25), x50, x51] ++ (Ad D_1 10 85 (Ad D 113 33 [ud]))))).toArray, []⟩) (by kernel_rfl) ?_
        refine wp_seq ?_
        obtain ⟨C, HC, H⟩ := H
        refine lwp_mx (Nat.testBit 69274114) (Nat.testBit 69274114) (Nat.testBit 7445870045) [0, 1, 0, 4, 12, 28, 63, 127, 255, 511, 255, 2047, 4095, 8191, 16383, 32767, 65535, 32767, 163839, 425983, 950271, 2097151, 4194303, 8388607, 16777215, 33554431, 67108863, 33554431, 167772159, 436207615, 973078527, 2147483647, 4294967295] (Nat.testBit 0) C [0, 1, 2, 3, 4, 5, 6, 7, 8, 9, 10, 11, 12, 13, 14, 15, 16, 17, 18, 19, 20, 21, 22, 23, 24, 25, 26, 27, 28, 29, 30, 31, 32] (by kernel_rfl) (by kernel_rfl) (by kernel_rfl) (by kernel_rfl) HA_10 HC ?_
        intro w_11 HA_11
        refine lm_al (x := x23) (d := some 137) (by kernel_rfl) rfl (by kernel_rfl) (by kernel_rfl) (al_move (by kernel_rfl)) ?_
        refine lm_dc (d := some 138) (by kernel_rfl) rfl (by kernel_rfl) (by kernel_rfl) (by kernel_rfl) HA_11 (d_call (by kernel_rfl) (by kernel_rfl) H) (fun x138 h_11 w_12 H HA_12 => ?_)
        refine lm_al (x := x34) (d := some 139) (by kernel_rfl) rfl (by kernel_rfl) (by kernel_rfl) (al_move (by kernel_rfl)) ?_
        refine lm_p (d := some 140) (by kernel_rfl) rfl (by kernel_rfl) (by kernel_rfl) (p_nil (by kernel_rfl) H) (fun x140 H => ?_)
        refine lm_p (d := some 141) (by kernel_rfl) rfl (by kernel_rfl) (by kernel_rfl) (p_off Try.underlying48 rfl (fun w => ⟨_, Try.sizeOf28 w⟩) rfl (by kernel_rfl) H) (fun x141 H => ?_)
        refine lm_f (d := some 142) (by kernel_rfl) rfl (by kernel_rfl) (by kernel_rfl) (by kernel_rfl) (by kernel_rfl) (c_ldn Try.isAgg28 Try.sizeOf28 (by kernel_rfl) H) (fun x142 H => ?_)
        refine lm_fr (b := ⟨([x0, x1, x2, ud, (D_1 0), x23, x34, x7, x8] ++ (Ad D_1 1 9 ([x1, x19, x20, ud, x22, x23, x23, x25, x26, x27, x28, x23, x30, ud, x32, x33, x34, x7, x1, x37, x38, (D 15), (D 16), x1, x7, x43, x44, x45, x46, x47, x48, (D 25), x50, x51] ++ (Ad D_1 10 85 ([x23, x138, x34, x140, x141, x142] ++ (Ad D 119 27 [ud])))))).toArray, []⟩) (by kernel_rfl) ?_
        refine lm_p (d := some 143) (by kernel_rfl) rfl (by kernel_rfl) (by kernel_rfl) (p_neqAgg (eqT_28) (by kernel_rfl) (by kernel_rfl) H) (fun x143 H => ?_)
        refine lm_al (x := x143) (d := some 144) (by kernel_rfl) rfl (by kernel_rfl) (by kernel_rfl) (al_move (by kernel_rfl)) ?_
        refine lm_orh [(), (), (), (), (), ()] (fun K a w => ∃ (D_2 : Nat → Value) (x150 : Value) (h_12 : Heap), a = ⟨([x0, x1, x2, ud, (D_1 0), x23, x34, x7, x8] ++ (Ad D_1 1 9 ([x1, x19, x20, ud, x22, x23, x23, x25, x26, x27, x28, x23, x30, ud, x32, x33, x34, x7, x1, x37, x38, (D 15), (D 16), x1, x7, x43, x44, x45, x46, x47, x48, (D 25), x50, x51] ++ (Ad D_1 10 85 ([x23, x138, x34, x140, x141, x142, x143, x143] ++ (Ad D_2 0 5 ([x150] ++ (Ad D 127 19 [ud])))))))).toArray, []⟩ ∧ At w0 w h_12 ∧ K x150 h_12) H (fun hb_2 H => ?_) (fun hb_2 H => ?_) ?_
        ·refine lm_al (x := x23) (d := some 145) (by kernel_rfl) rfl (by kernel_rfl) (by rw [hb_2]; kernel_rfl) (al_move (by kernel_rfl)) ?_
         refine lm_dc (d := some 146) (by kernel_rfl) rfl (by kernel_rfl) (by kernel_rfl) (by rw [hb_2]; kernel_rfl) HA_12 (d_call (by kernel_rfl) (by kernel_rfl) H) (fun x146 h_18 w_19 H HA_19 => ?_)
         refine lm_al (x := x34) (d := some 147) (by kernel_rfl) rfl (by kernel_rfl) (by rw [hb_2]; kernel_rfl) (al_move (by kernel_rfl)) ?_
         refine lm_dc (d := some 148) (by kernel_rfl) rfl (by kernel_rfl) (by kernel_rfl) (by rw [hb_2]; kernel_rfl) HA_19 (d_call (by kernel_rfl) (by kernel_rfl) H) (fun x148 h_19 w_20 H HA_20 => ?_)
         refine lm_fr (b := ⟨([x0, x1, x2, ud, (D_1 0), x23, x34, x7, x8] ++ (Ad D_1 1 9 ([x1, x19, x20, ud, x22, x23, x23, x25, x26, x27, x28, x23, x30, ud, x32, x33, x34, x7, x1, x37, x38, (D 15), (D 16), x1, x7, x43, x44, x45, x46, x47, x48, (D 25), x50, x51] ++ (Ad D_1 10 85 ([x23, x138, x34, x140, x141, x142, x143, x143, x23, x146, x34, x148] ++ (Ad D 125 21 [ud])))))).toArray, []⟩) (by kernel_rfl) ?_
         refine lm_p (d := some 149) (by kernel_rfl) rfl (by kernel_rfl) (by rw [hb_2]; kernel_rfl) (p_sNe (by kernel_rfl) (by kernel_rfl) H) (fun x149 H => ?_)
         refine lm_al (x := x149) (d := some 150) (by kernel_rfl) rfl (by kernel_rfl) (by kernel_rfl) (al_pick_f (by rw [hb_2]; kernel_rfl) (by kernel_rfl)) ?_
         refine lm_nil ?_
         exact ⟨(fun i => ([x23, x146, x34, x148, x149]).getD i ud), x149, h_19, by kernel_rfl, HA_20, H⟩
        ·refine lm_skip (d := some 145) (by kernel_rfl) rfl (by rw [hb_2]; kernel_rfl) ?_
         refine lm_skip (d := some 146) (by kernel_rfl) rfl (by rw [hb_2]; kernel_rfl) ?_
         refine lm_skip (d := some 147) (by kernel_rfl) rfl (by rw [hb_2]; kernel_rfl) ?_
         refine lm_skip (d := some 148) (by kernel_rfl) rfl (by rw [hb_2]; kernel_rfl) ?_
         refine lm_fr (b := ⟨([x0, x1, x2, ud, (D_1 0), x23, x34, x7, x8] ++ (Ad D_1 1 9 ([x1, x19, x20, ud, x22, x23, x23, x25, x26, x27, x28, x23, x30, ud, x32, x33, x34, x7, x1, x37, x38, (D 15), (D 16), x1, x7, x43, x44, x45, x46, x47, x48, (D 25), x50, x51] ++ (Ad D_1 10 85 ([x23, x138, x34, x140, x141, x142, x143, x143, ud, ud, ud, ud] ++ (Ad D 125 21 [ud])))))).toArray, []⟩) (by kernel_rfl) ?_
         refine lm_skip (d := some 149) (by kernel_rfl) rfl (by rw [hb_2]; kernel_rfl) ?_
         refine lm_al (x := (.bool true)) (d := some 150) (by kernel_rfl) rfl (by kernel_rfl) (by kernel_rfl) (al_pick_t (by rw [hb_2]; kernel_rfl) (by kernel_rfl)) ?_
         refine lm_nil ?_
         exact ⟨(fun i => (Ap [] 5).getD i ud), (.bool true), h_11, by kernel_rfl, HA_12, H⟩
        ·rintro _ w_13 ⟨D_2, x150, h_12, rfl, HA_13, H⟩
         refine lm_al (x := x150) (d := some 151) (by kernel_rfl) rfl (by kernel_rfl) (by kernel_rfl) (al_move (by kernel_rfl)) ?_
         refine lm_orh [(), (), (), (), (), (), (), (), ()] (fun K a w => ∃ (D_3 : Nat → Value) (x160 : Value) (h_13 : Heap), a = ⟨([x0, x1, x2, ud, (D_1 0), x23, x34, x7, x8] ++ (Ad D_1 1 9 ([x1, x19, x20, ud, x22, x23, x23, x25, x26, x27, x28, x23, x30, ud, x32, x33, x34, x7, x1, x37, x38, (D 15), (D 16), x1, x7, x43, x44, x45, x46, x47, x48, (D 25), x50, x51] ++ (Ad D_1 10 85 ([x23, x138, x34, x140, x141, x142, x143, x143] ++ (Ad D_2 0 5 ([x150, x150] ++ (Ad D_3 0 8 ([x160] ++ (Ad D 137 9 [ud])))))))))).toArray, []⟩ ∧ At w0 w h_13 ∧ K x160 h_13) H (fun hb_1 H => ?_) (fun hb_1 H => ?_) ?_
         ·refine lm_al (x := x23) (d := some 152) (by kernel_rfl) rfl (by kernel_rfl) (by rw [hb_1]; kernel_rfl) (al_move (by kernel_rfl)) ?_
          refine lm_dc (d := some 153) (by kernel_rfl) rfl (by kernel_rfl) (by kernel_rfl) (by rw [hb_1]; kernel_rfl) HA_13 (d_call (by kernel_rfl) (by kernel_rfl) H) (fun x153 h_16 w_17 H HA_17 => ?_)
          refine lm_al (x := x34) (d := some 154) (by kernel_rfl) rfl (by kernel_rfl) (by rw [hb_1]; kernel_rfl) (al_move (by kernel_rfl)) ?_
          refine lm_p (d := some 155) (by kernel_rfl) rfl (by kernel_rfl) (by rw [hb_1]; kernel_rfl) (p_nil (by kernel_rfl) H) (fun x155 H => ?_)
          refine lm_p (d := some 156) (by kernel_rfl) rfl (by kernel_rfl) (by rw [hb_1]; kernel_rfl) (p_off Try.underlying48 rfl (fun w => ⟨_, Try.sizeOf30 w⟩) rfl (by kernel_rfl) H) (fun x156 H => ?_)
          refine lm_fr (b := ⟨([x0, x1, x2, ud, (D_1 0), x23, x34, x7, x8] ++ (Ad D_1 1 9 ([x1, x19, x20, ud, x22, x23, x23, x25, x26, x27, x28, x23, x30, ud, x32, x33, x34, x7, x1, x37, x38, (D 15), (D 16), x1, x7, x43, x44, x45, x46, x47, x48, (D 25), x50, x51] ++ (Ad D_1 10 85 ([x23, x138, x34, x140, x141, x142, x143, x143] ++ (Ad D_2 0 5 ([x150, x150, x23, x153, x34, x155, x156] ++ (Ad D 133 13 [ud])))))))).toArray, []⟩) (by kernel_rfl) ?_
          refine lm_f (d := some 157) (by kernel_rfl) rfl (by kernel_rfl) (by kernel_rfl) (by kernel_rfl) (by rw [hb_1]; kernel_rfl) (c_ld Try.isAgg30 (by kernel_rfl) H) (fun x157 H => ?_)
          refine lm_dc (d := some 158) (by kernel_rfl) rfl (by kernel_rfl) (by kernel_rfl) (by rw [hb_1]; kernel_rfl) HA_17 (d_call (by kernel_rfl) (by kernel_rfl) H) (fun x158 h_17 w_18 H HA_18 => ?_)
          refine lm_p (d := some 159) (by kernel_rfl) rfl (by kernel_rfl) (by rw [hb_1]; kernel_rfl) (p_not (by kernel_rfl) H) (fun x159 H => ?_)
          refine lm_al (x := x159) (d := some 160) (by kernel_rfl) rfl (by kernel_rfl) (by kernel_rfl) (al_pick_f (by rw [hb_1]; kernel_rfl) (by kernel_rfl)) ?_
          refine lm_nil ?_
          exact ⟨(fun i => ([x23, x153, x34, x155, x156, x157, x158, x159]).getD i ud), x159, h_17, by kernel_rfl, HA_18, H⟩
         ·refine lm_skip (d := some 152) (by kernel_rfl) rfl (by rw [hb_1]; kernel_rfl) ?_
          refine lm_skip (d := some 153) (by kernel_rfl) rfl (by rw [hb_1]; kernel_rfl) ?_
          refine lm_skip (d := some 154) (by kernel_rfl) rfl (by rw [hb_1]; kernel_rfl) ?_
          refine lm_skip (d := some 155) (by kernel_rfl) rfl (by rw [hb_1]; kernel_rfl) ?_
          refine lm_skip (d := some 156) (by kernel_rfl) rfl (by rw [hb_1]; kernel_rfl) ?_
          refine lm_fr (b := ⟨([x0, x1, x2, ud, (D_1 0), x23, x34, x7, x8] ++ (Ad D_1 1 9 ([x1, x19, x20, ud, x22, x23, x23, x25, x26, x27, x28, x23, x30, ud, x32, x33, x34, x7, x1, x37, x38, (D 15), (D 16), x1, x7, x43, x44, x45, x46, x47, x48, (D 25), x50, x51] ++ (Ad D_1 10 85 ([x23, x138, x34, x140, x141, x142, x143, x143] ++ (Ad D_2 0 5 (Aq [x150, x150] 5 (Ad D 133 13 [ud])))))))).toArray, []⟩) (by kernel_rfl) ?_
          refine lm_skip (d := some 157) (by kernel_rfl) rfl (by rw [hb_1]; kernel_rfl) ?_
          refine lm_skip (d := some 158) (by kernel_rfl) rfl (by rw [hb_1]; kernel_rfl) ?_
          refine lm_skip (d := some 159) (by kernel_rfl) rfl (by rw [hb_1]; kernel_rfl) ?_
          refine lm_al (x := (.bool true)) (d := some 160) (by kernel_rfl) rfl (by kernel_rfl) (by kernel_rfl) (al_pick_t (by rw [hb_1]; kernel_rfl) (by kernel_rfl)) ?_
          refine lm_nil ?_
          exact ⟨(fun i => (Ap [] 8).getD i ud), (.bool true), h_12, by kernel_rfl, HA_13, H⟩
         ·rintro _ w_14 ⟨D_3, x160, h_13, rfl, HA_14, H⟩
          refine lm_al (x := x160) (d := some 161) (by kernel_rfl) rfl (by kernel_rfl) (by kernel_rfl) (al_move (by kernel_rfl)) ?_
          refine lm_orh [(), (), (), (), (), (), (), ()] (fun K a w => ∃ (D_4 : Nat → Value) (x169 : Value) (h_14 : Heap), a = ⟨([x0, x1, x2, ud, (D_1 0), x23, x34, x7, x8] ++ (Ad D_1 1 9 ([x1, x19, x20, ud, x22, x23, x23, x25, x26, x27, x28, x23, x30, ud, x32, x33, x34, x7, x1, x37, x38, (D 15), (D 16), x1, x7, x43, x44, x45, x46, x47, x48, (D 25), x50, x51] ++ (Ad D_1 10 85 ([x23, x138, x34, x140, x141, x142, x143, x143] ++ (Ad D_2 0 5 ([x150, x150] ++ (Ad D_3 0 8 ([x160, x160] ++ (Ad D_4 0 7 [x169, ud])))))))))).toArray, []⟩ ∧ At w0 w h_14 ∧ K x169 h_14) H (fun hb H => ?_) (fun hb H => ?_) ?_
          ·refine lm_al (x := x23) (d := some 162) (by kernel_rfl) rfl (by kernel_rfl) (by rw [hb]; kernel_rfl) (al_move (by kernel_rfl)) ?_
           refine lm_dc (d := some 163) (by kernel_rfl) rfl (by kernel_rfl) (by kernel_rfl) (by rw [hb]; kernel_rfl) HA_14 (d_call (by kernel_rfl) (by kernel_rfl) H) (fun x163 h_15 w_16 H HA_16 => ?_)
           refine lm_al (x := x34) (d := some 164) (by kernel_rfl) rfl (by kernel_rfl) (by rw [hb]; kernel_rfl) (al_move (by kernel_rfl)) ?_
           refine lm_p (d := some 165) (by kernel_rfl) rfl (by kernel_rfl) (by rw [hb]; kernel_rfl) (p_nil (by kernel_rfl) H) (fun x165 H => ?_)
           refine lm_p (d := some 166) (by kernel_rfl) rfl (by kernel_rfl) (by rw [hb]; kernel_rfl) (p_off Try.underlying48 rfl (fun w => ⟨_, Try.sizeOf4 w⟩) rfl (by kernel_rfl) H) (fun x166 H => ?_)
           refine lm_fr (b := ⟨([x0, x1, x2, ud, (D_1 0), x23, x34, x7, x8] ++ (Ad D_1 1 9 ([x1, x19, x20, ud, x22, x23, x23, x25, x26, x27, x28, x23, x30, ud, x32, x33, x34, x7, x1, x37, x38, (D 15), (D 16), x1, x7, x43, x44, x45, x46, x47, x48, (D 25), x50, x51] ++ (Ad D_1 10 85 ([x23, x138, x34, x140, x141, x142, x143, x143] ++ (Ad D_2 0 5 ([x150, x150] ++ (Ad D_3 0 8 [x160, x160, x23, x163, x34, x165, x166, (D 143), (D 144), (D 145), ud])))))))).toArray, []⟩) (by kernel_rfl) ?_
           refine lm_f (d := some 167) (by kernel_rfl) rfl (by kernel_rfl) (by kernel_rfl) (by kernel_rfl) (by rw [hb]; kernel_rfl) (c_ld Try.isAgg4 (by kernel_rfl) H) (fun x167 H => ?_)
           refine lm_p (d := some 168) (by kernel_rfl) rfl (by kernel_rfl) (by rw [hb]; kernel_rfl) (p_neqB Try.underlying4 (by kernel_rfl) (by kernel_rfl) H) (fun x168 H => ?_)
           refine lm_al (x := x168) (d := some 169) (by kernel_rfl) rfl (by kernel_rfl) (by kernel_rfl) (al_pick_f (by rw [hb]; kernel_rfl) (by kernel_rfl)) ?_
           refine lm_nil ?_
           exact ⟨(fun i => ([x23, x163, x34, x165, x166, x167, x168]).getD i ud), x168, h_15, by kernel_rfl, HA_16, H⟩
          ·refine lm_skip (d := some 162) (by kernel_rfl) rfl (by rw [hb]; kernel_rfl) ?_
           refine lm_skip (d := some 163) (by kernel_rfl) rfl (by rw [hb]; kernel_rfl) ?_
           refine lm_skip (d := some 164) (by kernel_rfl) rfl (by rw [hb]; kernel_rfl) ?_
           refine lm_skip (d := some 165) (by kernel_rfl) rfl (by rw [hb]; kernel_rfl) ?_
           refine lm_skip (d := some 166) (by kernel_rfl) rfl (by rw [hb]; kernel_rfl) ?_
           refine lm_fr (b := ⟨([x0, x1, x2, ud, (D_1 0), x23, x34, x7, x8] ++ (Ad D_1 1 9 ([x1, x19, x20, ud, x22, x23, x23, x25, x26, x27, x28, x23, x30, ud, x32, x33, x34, x7, x1, x37, x38, (D 15), (D 16), x1, x7, x43, x44, x45, x46, x47, x48, (D 25), x50, x51] ++ (Ad D_1 10 85 ([x23, x138, x34, x140, x141, x142, x143, x143] ++ (Ad D_2 0 5 ([x150, x150] ++ (Ad D_3 0 8 (Aq [x160, x160] 5 [(D 143), (D 144), (D 145), ud]))))))))).toArray, []⟩) (by kernel_rfl) ?_
           refine lm_skip (d := some 167) (by kernel_rfl) rfl (by rw [hb]; kernel_rfl) ?_
           refine lm_skip (d := some 168) (by kernel_rfl) rfl (by rw [hb]; kernel_rfl) ?_
           refine lm_al (x := (.bool true)) (d := some 169) (by kernel_rfl) rfl (by kernel_rfl) (by kernel_rfl) (al_pick_t (by rw [hb]; kernel_rfl) (by kernel_rfl)) ?_
           refine lm_nil ?_
           exact ⟨(fun i => (Ap [] 7).getD i ud), (.bool true), h_13, by kernel_rfl, HA_14, H⟩
          ·rintro _ w_15 ⟨D_4, x169, h_14, rfl, HA_15, H⟩
           refine lm_nil ?_
           refine then_normal ?_
           refine fr_eq (b := ⟨([x0, x1, x2, ud, (D_1 0), x23, x34, x7, x8] ++ (Ad D_1 1 9 ([x1, x19, x20, ud, x22, x23, x23, x25, x26, x27, x28, x23, x30, ud, x32, x33, x34, x7, x1, x37, x38, (D 15), (D 16), x1, x7, x43, x44, x45, x46, x47, x48, (D 25), x50, x51] ++ (Ad D_1 10 85 ([x23, x138, x34, x140, x141, x142, x143, x143] ++ (Ad D_2 0 5 ([x150, x150] ++ (Ad D_3 0 8 ([x160, x160] ++ (Ad D_4 0 7 [x169, ud])))))))))).toArray, []⟩) (by kernel_rfl) ?_
           refine wp_if rfl H (fun H => ?_) (fun H => ?_)
           ·refine wp_seq (lwp_list ?_)
            refine ls_assign (x := (.bool false)) (by kernel_rfl) (by kernel_rfl) ?_
            refine ls_nil (then_normal ?_)
            refine fr_eq (b := ⟨([x0, x1, x2, ud, (.bool false), x23, x34, x7, x8] ++ (Ad D_1 1 9 ([x1, x19, x20, ud, x22, x23, x23, x25, x26, x27, x28, x23, x30, ud, x32, x33, x34, x7, x1, x37, x38, (D 15), (D 16), x1, x7, x43, x44, x45, x46, x47, x48, (D 25), x50, x51] ++ (Ad D_1 10 85 ([x23, x138, x34, x140, x141, x142, x143, x143] ++ (Ad D_2 0 5 ([x150, x150] ++ (Ad D_3 0 8 ([x160, x160] ++ (Ad D_4 0 7 [x169, ud])))))))))).toArray, []⟩) (by kernel_rfl) ?_
            refine wp_ret ?_
            refine block_ret ?_
            refine then_ret ?_
            refine then_ret ?_
            refine block_ret ?_
            refine then_ret ?_
            exact end1 (Try.results8) (by kernel_rfl) (by kernel_rfl) HA_15 H _ (.inr rfl)
           ·refine wp_skip ?_
            refine block_normal ?_
            refine then_normal ?_
            refine fr_eq (b := ⟨([x0, x1, x2, ud, (D_1 0), x23, x34, x7, x8] ++ (Ad D_1 1 9 ([x1, x19, x20, ud, x22, x23, x23, x25, x26, x27, x28, x23, x30, ud, x32, x33, x34, x7, x1, x37, x38, (D 15), (D 16), x1, x7, x43, x44, x45, x46, x47, x48, (D 25), x50, x51] ++ (Ad D_1 10 85 ([x23, x138, x34, x140, x141, x142, x143, x143] ++ (Ad D_2 0 5 ([x150, x150] ++ (Ad D_3 0 8 ([x160, x160] ++ (Ad D_4 0 7 [x169, ud])))))))))).toArray, []⟩) (by kernel_rfl) ?_
            refine lwp_list ?_
            refine ls_move (x := x7) (by kernel_rfl) (by kernel_rfl) ?_
            refine ls_p (d := some 40) (by kernel_rfl) (by kernel_rfl) (p_add (by kernel_rfl) (by kernel_rfl) H) (fun x40 H => ?_)
            refine ls_assign (x := x40) (by kernel_rfl) (by kernel_rfl) ?_
            refine ls_nil ?_
            exact ⟨⟨(fun i => ([(D_1 0), x8] ++ (Ad D_1 1 9 ([x7, x1, x37, x38, x7, x40, x1, x7, x43, x44, x45, x46, x47, x48, (D 25), x50, x51] ++ (Ad D_1 10 85 ([x23, x138, x34, x140, x141, x142, x143, x143] ++ (Ad D_2 0 5 ([x150, x150] ++ (Ad D_3 0 8 ([x160, x160] ++ (Ad D_4 0 7 [x169])))))))))).getD i ud), x40, h_14, by kernel_rfl, HA_15, H.1⟩, loop_lt HA_15.heap HA_6.heap (by kernel_rfl) (by kernel_rfl) H.2⟩
     ·refine wp_exit ?_
      refine then_exit ?_
      refine then_exit ?_
      refine block_exit ?_
      refine then_normal ?_
      refine fr_eq (b := ⟨([x0, x1, x2, ud, (D 0), x23, x34, x7] ++ (Ad D 1 10 ([x1, x19, x20, ud, x22, x23, x23, x25, x26, x27, x28, x23, x30, ud, x32, x33, x34, x7, x1, x37, x38] ++ (Ad D 15 131 [ud])))).toArray, []⟩) (by kernel_rfl) ?_
      refine wp_seq (lwp_list ?_)
      refine ls_d (d := some 170) (by kernel_rfl) (by kernel_rfl) HA_6 (d_call (by kernel_rfl) (by kernel_rfl) H) (fun x170 h_33 w_35 H HA_35 => ?_)
      refine ls_assign (x := x170) (by kernel_rfl) (by kernel_rfl) ?_
      refine ls_nil (then_normal ?_)
      refine fr_eq (b := ⟨([x0, x1, x2, ud, x170, x23, x34, x7] ++ (Ad D 1 10 ([x1, x19, x20, ud, x22, x23, x23, x25, x26, x27, x28, x23, x30, ud, x32, x33, x34, x7, x1, x37, x38] ++ (Ad D 15 131 [x170])))).toArray, []⟩) (by kernel_rfl) ?_
      refine wp_ret ?_
      exact end1 (Try.results8) (by kernel_rfl) (by kernel_rfl) HA_35 H _ (.inr rfl)

end Go.Proofs.Ytlcklnbgknhhkaa
