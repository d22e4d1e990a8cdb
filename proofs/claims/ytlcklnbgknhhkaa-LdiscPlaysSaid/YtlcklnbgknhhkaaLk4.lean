/- Texts in one. -/
import Derived.Test.YtlcklnbgknhhkaaFnC
import Derived.Test.YtlcklnbgknhhkaaHwU
import Derived.Test.YtlcklnbgknhhkaaHwA
import Derived.Test.YtlcklnbgknhhkaaLk3
section
/- The shallow reading of one function, and that the function does it. Written by a program. -/
set_option linter.unusedVariables false
namespace Go.Proofs.Ytlcklnbgknhhkaa
open Go Go.HW

def betonyref18_Disc_Input_j1 (R : Value → Heap → Prop) (x0 x1_1 : Value) (h_3 : Heap) : Prop :=
  betonyref18_Disc_put_c x0 x1_1 h_3 fun x25 h_4 => 
  R (.int .i64 0) h_4
def betonyref18_Disc_Input_j4 (R : Value → Heap → Prop) (x6 : Value) (h_18 : Heap) : Prop :=
  sAdd .i64 x6 (.int .i64 1) fun x87 =>
  R x87 h_18
def betonyref18_Disc_Input_j5 (R : Value → Heap → Prop) (h_27 : Heap) : Prop :=
  R (.int .i64 0) h_27
def betonyref18_Disc_Input_l7 (R : Value → Heap → Prop) (x0 : Value) (next : Heap → Prop) (h_35 : Heap) : Prop :=
  sNil x0 fun x129 =>
  sOff x129 17 fun x130 =>
  sLd h_35 x130 fun x131 =>
  sLen x131 fun x132 =>
  sGt x132 (.int .i64 0) fun x133 =>
  sAndH x133 h_35 (fun k =>
  betonyref18_Disc_blank_c x0 h_35 fun x136 h_38 => 
  sNot x136 fun x137 =>
  k x137 h_38) fun x138 h_36 =>
  sIf x138 (betonyref18_Disc_back_c x0 h_36 fun x140 h_37 => 
  next h_37) (R (.int .i64 0) h_36)
def betonyref18_Disc_Input_l6 (R : Value → Heap → Prop) (x0 : Value) (next : Heap → Prop) (h_32 : Heap) : Prop :=
  sNil x0 fun x117 =>
  sOff x117 17 fun x118 =>
  sLd h_32 x118 fun x119 =>
  sLen x119 fun x120 =>
  sGt x120 (.int .i64 0) fun x121 =>
  sAndH x121 h_32 (fun k_1 =>
  betonyref18_Disc_blank_c x0 h_32 fun x124 h_39 => 
  k_1 x124 h_39) fun x125 h_33 =>
  sIf x125 (betonyref18_Disc_back_c x0 h_33 fun x127 h_34 => 
  next h_34) (sLoop (S := Unit) (fun nxt s h => betonyref18_Disc_Input_l7 R x0 (fun  h => nxt () h)  h) () h_33)
def betonyref18_Disc_Input_l9 (R : Value → Heap → Prop) (x0 : Value) (next : Value → Heap → Prop) (x7 : Value) (h_45 : Heap) : Prop :=
  sNil x0 fun x158 =>
  sOff x158 17 fun x159 =>
  sLd h_45 x159 fun x160 =>
  sLen x160 fun x161 =>
  sLt x7 x161 fun x162 =>
  sIf x162 (sNil x0 fun x167 =>
  sOff x167 17 fun x168 =>
  sLd h_45 x168 fun x169 =>
  sIxS x169 x7 1 fun x171 =>
  sLd h_45 x171 fun x172 =>
  betonyref18_Disc_show_c x0 x172 h_45 fun x173 h_46 => 
  sAdd .i64 x7 (.int .i64 1) fun x164 =>
  next x164 h_46) (R (.int .i64 0) h_45)
def betonyref18_Disc_Input_j8 (R : Value → Heap → Prop) (x0 : Value) (h_44 : Heap) : Prop :=
  sLoop (S := Value) (fun nxt s h => betonyref18_Disc_Input_l9 R x0 (fun x7' h => nxt x7' h) s h) (.int .i64 0) h_44
def betonyref18_Disc_Input_j12 (R : Value → Heap → Prop) (h_59 : Heap) : Prop :=
  R (.int .i64 0) h_59
def betonyref18_Disc_Input_j11 (R : Value → Heap → Prop) (x0 x35 : Value) (h_55 : Heap) : Prop :=
  betonyref18_Disc_is_c x0 (.int .i64 5) x35 h_55 fun x210 h_56 => 
  sNot x210 fun x211 =>
  sAndH x211 h_56 (fun k_3 =>
  betonyref18_Disc_local_c x0 (.int .i64 8) h_56 fun x214 h_63 => 
  k_3 x214 h_63) fun x215 h_57 =>
  sAndH x215 h_57 (fun k_2 =>
  betonyref18_Disc_local_c x0 (.int .i64 2) h_57 fun x218 h_62 => 
  k_2 x218 h_62) fun x219 h_58 =>
  sIf x219 (sSlit h_58 #[.int .u8 0] [(0, 1, (.int .u8 10))] 5 1 fun x221 h_60 => 
  betonyref18_Disc_out_c x0 x221 h_60 fun x222 h_61 => 
  betonyref18_Disc_Input_j12 R h_61) (betonyref18_Disc_Input_j12 R h_58)
def betonyref18_Disc_Input_l10 (R : Value → Heap → Prop) (x0 x35 : Value) (next : Value → Heap → Prop) (x8 : Value) (h_51 : Heap) : Prop :=
  sNil x0 fun x183 =>
  sOff x183 17 fun x184 =>
  sLd h_51 x184 fun x185 =>
  sLen x185 fun x186 =>
  sGt x186 (.int .i64 0) fun x187 =>
  sAndH x187 h_51 (fun k_4 =>
  sEq x8 (.int .i64 0) fun x190 =>
  sOrH x190 h_51 (fun k_5 =>
  betonyref18_Disc_is_c x0 (.int .i64 5) x35 h_51 fun x194 h_66 => 
  sNot x194 fun x195 =>
  k_5 x195 h_66) fun x196 h_65 =>
  k_4 x196 h_65) fun x197 h_52 =>
  sIf x197 (betonyref18_Disc_back_c x0 h_52 fun x201 h_53 => 
  sAdd .i64 x8 (.int .i64 1) fun x199 =>
  next x199 h_53) (betonyref18_Disc_local_c x0 (.int .i64 4) h_52 fun x203 h_54 => 
  sNot x203 fun x204 =>
  sIf x204 (betonyref18_Disc_show_c x0 x35 h_54 fun x207 h_64 => 
  betonyref18_Disc_Input_j11 R x0 x35 h_64) (betonyref18_Disc_Input_j11 R x0 x35 h_54))
def betonyref18_Disc_Input_j13 (R : Value → Heap → Prop) (h_71 : Heap) : Prop :=
  R (.int .i64 0) h_71
def betonyref18_Disc_Input_l3 (R : Value → Heap → Prop) (x0 x35 : Value) (next : Value → Heap → Prop) (x6 : Value) (h_13 : Heap) : Prop :=
  sLt x6 (.int .i64 3) fun x64 =>
  sAndH x64 h_13 (fun k_12 =>
  betonyref18_Disc_local_c x0 (.int .i64 64) h_13 fun x67 h_79 => 
  k_12 x67 h_79) fun x68 h_14 =>
  sIf x68 (betonyref18_Disc_is_c x0 x6 x35 h_14 fun x74 h_15 => 
  sIf x74 (betonyref18_Disc_show_c x0 x35 h_15 fun x77 h_16 => 
  betonyref18_Disc_local_c x0 (.int .i64 128) h_16 fun x79 h_17 => 
  sNot x79 fun x80 =>
  sIf x80 (betonyref18_Disc_Flush_c x0 h_17 fun x82 h_19 => 
  sNil x0 fun x84 =>
  sOff x84 20 fun x85 =>
  sSt h_19 x85 (.bool false) fun h_20 => 
  betonyref18_Disc_Input_j4 R x6 h_20) (betonyref18_Disc_Input_j4 R x6 h_17)) (sAdd .i64 x6 (.int .i64 1) fun x70 =>
  next x70 h_15)) (betonyref18_Disc_local_c x0 (.int .i64 1) h_14 fun x89 h_21 => 
  sNot x89 fun x90 =>
  sIf x90 (betonyref18_Disc_put_c x0 x35 h_21 fun x93 h_22 => 
  R (.int .i64 0) h_22) (betonyref18_Disc_local_c x0 (.int .i64 512) h_21 fun x95 h_23 => 
  sAndH x95 h_23 (fun k_11 =>
  betonyref18_Disc_is_c x0 (.int .i64 9) x35 h_23 fun x99 h_78 => 
  k_11 x99 h_78) fun x100 h_24 =>
  sIf x100 (sNil x0 fun x102 =>
  sOff x102 21 fun x103 =>
  sSt h_24 x103 (.bool true) fun h_25 => 
  betonyref18_Disc_local_c x0 (.int .i64 2) h_25 fun x105 h_26 => 
  sIf x105 (sSlit h_26 #[.int .u8 0, .int .u8 0] [(0, 1, (.int .u8 94)), (1, 1, (.int .u8 8))] 5 2 fun x107 h_28 => 
  betonyref18_Disc_out_c x0 x107 h_28 fun x108 h_29 => 
  betonyref18_Disc_Input_j5 R h_29) (betonyref18_Disc_Input_j5 R h_26)) (betonyref18_Disc_local_c x0 (.int .i64 512) h_24 fun x110 h_30 => 
  sAndH x110 h_30 (fun k_10 =>
  betonyref18_Disc_is_c x0 (.int .i64 7) x35 h_30 fun x114 h_77 => 
  k_10 x114 h_77) fun x115 h_31 =>
  sIf x115 (sLoop (S := Unit) (fun nxt s h => betonyref18_Disc_Input_l6 R x0 (fun  h => nxt () h)  h) () h_31) (betonyref18_Disc_local_c x0 (.int .i64 512) h_31 fun x142 h_40 => 
  sAndH x142 h_40 (fun k_9 =>
  betonyref18_Disc_is_c x0 (.int .i64 8) x35 h_40 fun x146 h_76 => 
  k_9 x146 h_76) fun x147 h_41 =>
  sIf x147 (betonyref18_Disc_show_c x0 x35 h_41 fun x150 h_42 => 
  betonyref18_Disc_local_c x0 (.int .i64 2) h_42 fun x152 h_43 => 
  sIf x152 (sSlit h_43 #[.int .u8 0] [(0, 1, (.int .u8 10))] 5 1 fun x154 h_47 => 
  betonyref18_Disc_out_c x0 x154 h_47 fun x155 h_48 => 
  betonyref18_Disc_Input_j8 R x0 h_48) (betonyref18_Disc_Input_j8 R x0 h_43)) (betonyref18_Disc_is_c x0 (.int .i64 5) x35 h_41 fun x176 h_49 => 
  sOrH x176 h_49 (fun k_8 =>
  betonyref18_Disc_is_c x0 (.int .i64 6) x35 h_49 fun x180 h_75 => 
  k_8 x180 h_75) fun x181 h_50 =>
  sIf x181 (sLoop (S := Value) (fun nxt s h => betonyref18_Disc_Input_l10 R x0 x35 (fun x8' h => nxt x8' h) s h) (.int .i64 0) h_50) (betonyref18_Disc_is_c x0 (.int .i64 3) x35 h_50 fun x225 h_67 => 
  sIf x225 (betonyref18_Disc_ready_c x0 h_67 fun x227 h_68 => 
  R (.int .i64 0) h_68) (betonyref18_Disc_put_c x0 x35 h_67 fun x230 h_69 => 
  sAndH x230 h_69 (fun k_6 =>
  sEq x35 (.int .u8 10) fun x233 =>
  sOrH x233 h_69 (fun k_7 =>
  betonyref18_Disc_is_c x0 (.int .i64 4) x35 h_69 fun x237 h_74 => 
  k_7 x237 h_74) fun x238 h_73 =>
  k_6 x238 h_73) fun x239 h_70 =>
  sIf x239 (betonyref18_Disc_ready_c x0 h_70 fun x241 h_72 => 
  betonyref18_Disc_Input_j13 R h_72) (betonyref18_Disc_Input_j13 R h_70))))))))
def betonyref18_Disc_Input_j2 (R : Value → Heap → Prop) (x0 x35 : Value) (h_12 : Heap) : Prop :=
  sLoop (S := Value) (fun nxt s h => betonyref18_Disc_Input_l3 R x0 x35 (fun x6' h => nxt x6' h) s h) (.int .i64 0) h_12
def betonyref18_Disc_Input_S (x0 x1 : Value) (h : Heap) (R : Value → Heap → Prop) : Prop :=
  sNil x0 fun x10 =>
  sOff x10 22 fun x11 =>
  sSt h x11 (.slice none 0 0) fun h => 
  sNil x0 fun x13 =>
  sOff x13 21 fun x14 =>
  sLd h x14 fun x15 =>
  sIf x15 (sNil x0 fun x17 =>
  sOff x17 21 fun x18 =>
  sSt h x18 (.bool false) fun h_1 => 
  betonyref18_Disc_in_c x0 (.int .i64 1) h_1 fun x20 h_2 => 
  sIf x20 (sRem .u8 x1 (.int .u8 128) fun x22 =>
  betonyref18_Disc_Input_j1 R x0 x22 h_2) (betonyref18_Disc_Input_j1 R x0 x1 h_2)) (sNil x0 fun x27 =>
  sOff x27 0 fun x28 =>
  sLdN h x28 17 fun x29 =>
  betonyref17_Map_c x29 x1 h fun x31 h_5 => 
  sLt x31 (.int .i64 0) fun x33 =>
  sIf x33 (R (.int .i64 0) h_5) (sConv .u8 x31 fun x35 =>
  betonyref18_Disc_in_c x0 (.int .i64 16) h_5 fun x37 h_6 => 
  sAndH x37 h_6 (fun k_14 =>
  betonyref18_Disc_is_c x0 (.int .i64 11) x35 h_6 fun x41 h_82 => 
  sOrH x41 h_82 (fun k_15 =>
  betonyref18_Disc_is_c x0 (.int .i64 10) x35 h_82 fun x45 h_84 => 
  k_15 x45 h_84) fun x46 h_83 =>
  k_14 x46 h_83) fun x47 h_7 =>
  sIf x47 (betonyref18_Disc_is_c x0 (.int .i64 11) x35 h_7 fun x51 h_8 => 
  sNil x0 fun x52 =>
  sOff x52 20 fun x53 =>
  sSt h_8 x53 x51 fun h_9 => 
  R (.int .i64 0) h_9) (betonyref18_Disc_in_c x0 (.int .i64 16) h_7 fun x55 h_10 => 
  sAndH x55 h_10 (fun k_13 =>
  betonyref18_Disc_in_c x0 (.int .i64 32) h_10 fun x58 h_81 => 
  k_13 x58 h_81) fun x59 h_11 =>
  sIf x59 (sNil x0 fun x61 =>
  sOff x61 20 fun x62 =>
  sSt h_11 x62 (.bool false) fun h_80 => 
  betonyref18_Disc_Input_j2 R x0 x35 h_80) (betonyref18_Disc_Input_j2 R x0 x35 h_11))))
set_option maxHeartbeats 4000000 in
set_option maxRecDepth 100000 in
theorem betonyref18_Disc_Input_runs {x0 x1 : Value} {h : Heap} {R : Value → Heap → Prop} (H : betonyref18_Disc_Input_S x0 x1 h R) : betonyref18_Disc_Input_c x0 x1 h R := by
 unfold betonyref18_Disc_Input_S at H
 refine runs_of (b := ⟨(Ap [x0, x1] 240).toArray, []⟩) Try.call23 Try.func23 rfl (by kernel_rfl) (fun w0 HA => ?_)
 refine wp_seq (lwp_list ?_)
 refine ls_assign (x := (.int .i64 0)) (by kernel_rfl) (by kernel_rfl) ?_
 refine ls_nil (then_normal ?_)
 refine fr_eq (b := ⟨(Ap [x0, x1, ud, ud, (.int .i64 0)] 237).toArray, []⟩) (by kernel_rfl) ?_
 refine wp_seq (lwp_list ?_)
 refine ls_move (x := x0) (by kernel_rfl) (by kernel_rfl) ?_
 refine ls_p (d := some 10) (by kernel_rfl) (by kernel_rfl) (p_nil (by kernel_rfl) H) (fun x10 H => ?_)
 refine ls_p (d := some 11) (by kernel_rfl) (by kernel_rfl) (p_off Try.underlying48 rfl (fun w => ⟨_, Try.sizeOf30 w⟩) rfl (by kernel_rfl) H) (fun x11 H => ?_)
 refine ls_d (d := none) (by kernel_rfl) (by kernel_rfl) HA (d_st Try.sizeOf30 (by kernel_rfl) (by kernel_rfl) H) (fun _ h w H HA => ?_)
 refine ls_nil (then_normal ?_)
 refine fr_eq (b := ⟨(Ap [x0, x1, ud, ud, (.int .i64 0), ud, ud, ud, ud, x0, x10, x11] 230).toArray, []⟩) (by kernel_rfl) ?_
 refine wp_seq ?_
 refine wp_seq (lwp_list ?_)
 refine ls_move (x := x0) (by kernel_rfl) (by kernel_rfl) ?_
 refine ls_p (d := some 13) (by kernel_rfl) (by kernel_rfl) (p_nil (by kernel_rfl) H) (fun x13 H => ?_)
 refine ls_p (d := some 14) (by kernel_rfl) (by kernel_rfl) (p_off Try.underlying48 rfl (fun w => ⟨_, Try.sizeOf4 w⟩) rfl (by kernel_rfl) H) (fun x14 H => ?_)
 refine ls_y (d := some 15) (by kernel_rfl) (by kernel_rfl) HA (y_ld Try.isAgg4 (by kernel_rfl) H) (fun x15 H => ?_)
 refine ls_nil (then_normal ?_)
 refine fr_eq (b := ⟨(Ap [x0, x1, ud, ud, (.int .i64 0), ud, ud, ud, ud, x0, x10, x11, x0, x13, x14, x15] 226).toArray, []⟩) (by kernel_rfl) ?_
 refine wp_if rfl H (fun H => ?_) (fun H => ?_)
 ·refine wp_seq (lwp_list ?_)
  refine ls_move (x := x0) (by kernel_rfl) (by kernel_rfl) ?_
  refine ls_p (d := some 17) (by kernel_rfl) (by kernel_rfl) (p_nil (by kernel_rfl) H) (fun x17 H => ?_)
  refine ls_p (d := some 18) (by kernel_rfl) (by kernel_rfl) (p_off Try.underlying48 rfl (fun w => ⟨_, Try.sizeOf4 w⟩) rfl (by kernel_rfl) H) (fun x18 H => ?_)
  refine ls_d (d := none) (by kernel_rfl) (by kernel_rfl) HA (d_st Try.sizeOf4 (by kernel_rfl) (by kernel_rfl) H) (fun _ h_1 w_1 H HA_1 => ?_)
  refine ls_nil (then_normal ?_)
  refine fr_eq (b := ⟨(Ap [x0, x1, ud, ud, (.int .i64 0), ud, ud, ud, ud, x0, x10, x11, x0, x13, x14, x15, x0, x17, x18] 223).toArray, []⟩) (by kernel_rfl) ?_
  refine wp_seq ?_
  refine wp_seq (lwp_list ?_)
  refine ls_move (x := x0) (by kernel_rfl) (by kernel_rfl) ?_
  refine ls_d (d := some 20) (by kernel_rfl) (by kernel_rfl) HA_1 (d_call (by kernel_rfl) (by kernel_rfl) H) (fun x20 h_2 w_2 H HA_2 => ?_)
  refine ls_nil (then_normal ?_)
  refine fr_eq (b := ⟨(Ap [x0, x1, ud, ud, (.int .i64 0), ud, ud, ud, ud, x0, x10, x11, x0, x13, x14, x15, x0, x17, x18, x0, x20] 221).toArray, []⟩) (by kernel_rfl) ?_
  refine wp_join (fun a w => ∃ (D : Nat → Value) (x1_1 : Value) (h_3 : Heap), a = ⟨(Ap [x0, x1_1, ud, ud, (.int .i64 0), ud, ud, ud, ud, x0, x10, x11, x0, x13, x14, x15, x0, x17, x18, x0, x20, (D 0), (D 1)] 219).toArray, []⟩ ∧ At w0 w h_3 ∧ betonyref18_Disc_Input_j1 R x0 x1_1 h_3) ?_ ?_
  ·refine wp_if rfl H (fun H => ?_) (fun H => ?_)
   ·refine lwp_list ?_
    refine ls_move (x := x1) (by kernel_rfl) (by kernel_rfl) ?_
    refine ls_p (d := some 22) (by kernel_rfl) (by kernel_rfl) (p_rem (by kernel_rfl) (by kernel_rfl) H) (fun x22 H => ?_)
    refine ls_assign (x := x22) (by kernel_rfl) (by kernel_rfl) ?_
    refine ls_nil ?_
    exact ⟨(fun i => ([x1, x22]).getD i ud), x22, h_2, by kernel_rfl, HA_2, H⟩
   ·refine wp_skip ?_
    exact ⟨(fun i => ([ud, ud]).getD i ud), x1, h_2, by kernel_rfl, HA_2, H⟩
  ·rintro _ w_3 ⟨D, x1_1, h_3, rfl, HA_3, H⟩
   unfold betonyref18_Disc_Input_j1 at H
   refine then_normal ?_
   refine fr_eq (b := ⟨(Ap [x0, x1_1, ud, ud, (.int .i64 0), ud, ud, ud, ud, x0, x10, x11, x0, x13, x14, x15, x0, x17, x18, x0, x20, (D 0), (D 1)] 219).toArray, []⟩) (by kernel_rfl) ?_
   refine wp_seq (lwp_list ?_)
   refine ls_move (x := x0) (by kernel_rfl) (by kernel_rfl) ?_
   refine ls_move (x := x1_1) (by kernel_rfl) (by kernel_rfl) ?_
   refine ls_d (d := some 25) (by kernel_rfl) (by kernel_rfl) HA_3 (d_call (by kernel_rfl) (by kernel_rfl) H) (fun x25 h_4 w_4 H HA_4 => ?_)
   refine ls_nil (then_normal ?_)
   refine fr_eq (b := ⟨(Ap [x0, x1_1, ud, ud, (.int .i64 0), ud, ud, ud, ud, x0, x10, x11, x0, x13, x14, x15, x0, x17, x18, x0, x20, (D 0), (D 1), x0, x1_1, x25] 216).toArray, []⟩) (by kernel_rfl) ?_
   refine wp_seq (lwp_list ?_)
   refine ls_assign (x := (.int .i64 0)) (by kernel_rfl) (by kernel_rfl) ?_
   refine ls_nil (then_normal ?_)
   refine fr_eq (b := ⟨(Ap [x0, x1_1, ud, ud, (.int .i64 0), ud, ud, ud, ud, x0, x10, x11, x0, x13, x14, x15, x0, x17, x18, x0, x20, (D 0), (D 1), x0, x1_1, x25] 216).toArray, []⟩) (by kernel_rfl) ?_
   refine wp_ret ?_
   refine then_ret ?_
   exact end1 (Try.results23) (by kernel_rfl) (by kernel_rfl) HA_4 H _ (.inr rfl)
 ·refine wp_skip ?_
  refine then_normal ?_
  refine fr_eq (b := ⟨(Ap [x0, x1, ud, ud, (.int .i64 0), ud, ud, ud, ud, x0, x10, x11, x0, x13, x14, x15] 226).toArray, []⟩) (by kernel_rfl) ?_
  refine wp_seq (lwp_list ?_)
  refine ls_move (x := x0) (by kernel_rfl) (by kernel_rfl) ?_
  refine ls_p (d := some 27) (by kernel_rfl) (by kernel_rfl) (p_nil (by kernel_rfl) H) (fun x27 H => ?_)
  refine ls_p (d := some 28) (by kernel_rfl) (by kernel_rfl) (p_off Try.underlying48 rfl (fun w => ⟨_, Try.sizeOf28 w⟩) rfl (by kernel_rfl) H) (fun x28 H => ?_)
  refine ls_y (d := some 29) (by kernel_rfl) (by kernel_rfl) HA (y_ldn Try.isAgg28 Try.sizeOf28 (by kernel_rfl) H) (fun x29 H => ?_)
  refine ls_move (x := x1) (by kernel_rfl) (by kernel_rfl) ?_
  refine ls_d (d := some 31) (by kernel_rfl) (by kernel_rfl) HA (d_call (by kernel_rfl) (by kernel_rfl) H) (fun x31 h_5 w_5 H HA_5 => ?_)
  refine ls_fr (b := ⟨(Aq [x0, x1, ud, ud, (.int .i64 0), ud, ud, ud, ud, x0, x10, x11, x0, x13, x14, x15] 10 (Ap [x0, x27, x28, x29, x1, x31] 210)).toArray, []⟩) (by kernel_rfl) ?_
  refine ls_assign (x := x31) (by kernel_rfl) (by kernel_rfl) ?_
  refine ls_nil (then_normal ?_)
  refine fr_eq (b := ⟨(Aq [x0, x1, ud, ud, (.int .i64 0), x31, ud, ud, ud, x0, x10, x11, x0, x13, x14, x15] 10 (Ap [x0, x27, x28, x29, x1, x31] 210)).toArray, []⟩) (by kernel_rfl) ?_
  refine wp_seq ?_
  refine wp_seq (lwp_list ?_)
  refine ls_move (x := x31) (by kernel_rfl) (by kernel_rfl) ?_
  refine ls_p (d := some 33) (by kernel_rfl) (by kernel_rfl) (p_sLt (by kernel_rfl) (by kernel_rfl) H) (fun x33 H => ?_)
  refine ls_nil (then_normal ?_)
  refine fr_eq (b := ⟨(Aq [x0, x1, ud, ud, (.int .i64 0), x31, ud, ud, ud, x0, x10, x11, x0, x13, x14, x15] 10 (Ap [x0, x27, x28, x29, x1, x31, x31, x33] 208)).toArray, []⟩) (by kernel_rfl) ?_
  refine wp_if rfl H (fun H => ?_) (fun H => ?_)
  ·refine wp_seq (lwp_list ?_)
   refine ls_assign (x := (.int .i64 0)) (by kernel_rfl) (by kernel_rfl) ?_
   refine ls_nil (then_normal ?_)
   refine fr_eq (b := ⟨(Aq [x0, x1, ud, ud, (.int .i64 0), x31, ud, ud, ud, x0, x10, x11, x0, x13, x14, x15] 10 (Ap [x0, x27, x28, x29, x1, x31, x31, x33] 208)).toArray, []⟩) (by kernel_rfl) ?_
   refine wp_ret ?_
   refine then_ret ?_
   exact end1 (Try.results23) (by kernel_rfl) (by kernel_rfl) HA_5 H _ (.inr rfl)
  ·refine wp_skip ?_
   refine then_normal ?_
   refine fr_eq (b := ⟨(Aq [x0, x1, ud, ud, (.int .i64 0), x31, ud, ud, ud, x0, x10, x11, x0, x13, x14, x15] 10 (Ap [x0, x27, x28, x29, x1, x31, x31, x33] 208)).toArray, []⟩) (by kernel_rfl) ?_
   refine wp_seq (lwp_list ?_)
   refine ls_move (x := x31) (by kernel_rfl) (by kernel_rfl) ?_
   refine ls_p (d := some 35) (by kernel_rfl) (by kernel_rfl) (p_conv Try.underlying3 Try.underlying5 (by kernel_rfl) H) (fun x35 H => ?_)
   refine ls_assign (x := x35) (by kernel_rfl) (by kernel_rfl) ?_
   refine ls_nil (then_normal ?_)
   refine fr_eq (b := ⟨(Aq [x0, x35, ud, ud, (.int .i64 0), x31, ud, ud, ud, x0, x10, x11, x0, x13, x14, x15] 10 (Ap [x0, x27, x28, x29, x1, x31, x31, x33, x31, x35] 206)).toArray, []⟩) (by kernel_rfl) ?_
   refine wp_seq ?_
   refine wp_seq (lwp_list ?_)
   refine ls_move (x := x0) (by kernel_rfl) (by kernel_rfl) ?_
   refine ls_d (d := some 37) (by kernel_rfl) (by kernel_rfl) HA_5 (d_call (by kernel_rfl) (by kernel_rfl) H) (fun x37 h_6 w_6 H HA_6 => ?_)
   refine ls_move (x := x37) (by kernel_rfl) (by kernel_rfl) ?_
   refine ls_andh [(), (), (), (), (), (), (), (), ()] (fun K a w => ∃ (D_1 : Nat → Value) (x47 : Value) (h_7 : Heap), a = ⟨(Aq [x0, x35, ud, ud, (.int .i64 0), x31, ud, ud, ud, x0, x10, x11, x0, x13, x14, x15] 10 ([x0, x27, x28, x29, x1, x31, x31, x33, x31, x35, x0, x37, x37] ++ (Ad D_1 0 8 (Ap [x47] 194)))).toArray, []⟩ ∧ At w0 w h_7 ∧ K x47 h_7) H (fun hb_14 H => ?_) (fun hb_14 H => ?_) ?_
   ·refine ls_move (x := x0) (by rw [hb_14]; kernel_rfl) (by kernel_rfl) ?_
    refine ls_move (x := x35) (by rw [hb_14]; kernel_rfl) (by kernel_rfl) ?_
    refine ls_d (d := some 41) (by kernel_rfl) (by rw [hb_14]; kernel_rfl) HA_6 (d_call (by kernel_rfl) (by kernel_rfl) H) (fun x41 h_82 w_82 H HA_82 => ?_)
    refine ls_fr (b := ⟨(Aq [x0, x35, ud, ud, (.int .i64 0), x31, ud, ud, ud, x0, x10, x11, x0, x13, x14, x15] 10 (Ap [x0, x27, x28, x29, x1, x31, x31, x33, x31, x35, x0, x37, x37, x0, x35, x41] 200)).toArray, []⟩) (by kernel_rfl) ?_
    refine ls_move (x := x41) (by rw [hb_14]; kernel_rfl) (by kernel_rfl) ?_
    refine ls_orh [(), (), (), ()] (fun K a w => ∃ (D_28 : Nat → Value) (x46 : Value) (h_83 : Heap), a = ⟨(Aq [x0, x35, ud, ud, (.int .i64 0), x31, ud, ud, ud, x0, x10, x11, x0, x13, x14, x15] 10 (Ap [x0, x27, x28, x29, x1, x31, x31, x33, x31, x35, x0, x37, x37, x0, x35, x41, x41, (D_28 0), (D_28 1), (D_28 2), x46] 195)).toArray, []⟩ ∧ At w0 w h_83 ∧ K x46 h_83) H (fun hb_15 H => ?_) (fun hb_15 H => ?_) ?_
    ·refine ls_move (x := x0) (by rw [hb_15]; kernel_rfl) (by kernel_rfl) ?_
     refine ls_move (x := x35) (by rw [hb_15]; kernel_rfl) (by kernel_rfl) ?_
     refine ls_d (d := some 45) (by kernel_rfl) (by rw [hb_15]; kernel_rfl) HA_82 (d_call (by kernel_rfl) (by kernel_rfl) H) (fun x45 h_84 w_84 H HA_84 => ?_)
     refine ls_pick_f (y := x45) (by rw [hb_14]; kernel_rfl) (by rw [hb_15]; kernel_rfl) (by kernel_rfl) ?_
     refine ls_nil (then_normal ?_)
     exact ⟨(fun i => ([x0, x35, x45]).getD i ud), x45, h_84, by kernel_rfl, HA_84, H⟩
    ·refine ls_skip (d := some 43) (by kernel_rfl) (by rw [hb_15]; kernel_rfl) ?_
     refine ls_skip (d := some 44) (by kernel_rfl) (by rw [hb_15]; kernel_rfl) ?_
     refine ls_skip (d := some 45) (by kernel_rfl) (by rw [hb_15]; kernel_rfl) ?_
     refine ls_pick_t (x := (.bool true)) (by rw [hb_14]; kernel_rfl) (by rw [hb_15]; kernel_rfl) (by kernel_rfl) ?_
     refine ls_nil (then_normal ?_)
     exact ⟨(fun i => ([ud, ud, ud]).getD i ud), (.bool true), h_82, by kernel_rfl, HA_82, H⟩
    ·rintro _ w_83 ⟨D_28, x46, h_83, rfl, HA_83, H⟩
     refine ls_pick_t (x := x46) (by kernel_rfl) (by rw [hb_14]; kernel_rfl) (by kernel_rfl) ?_
     refine ls_nil (then_normal ?_)
     exact ⟨(fun i => ([x0, x35, x41, x41, (D_28 0), (D_28 1), (D_28 2), x46]).getD i ud), x46, h_83, by kernel_rfl, HA_83, H⟩
   ·refine ls_skip (d := some 39) (by kernel_rfl) (by rw [hb_14]; kernel_rfl) ?_
    refine ls_skip (d := some 40) (by kernel_rfl) (by rw [hb_14]; kernel_rfl) ?_
    refine ls_skip (d := some 41) (by kernel_rfl) (by rw [hb_14]; kernel_rfl) ?_
    refine ls_fr (b := ⟨(Aq [x0, x35, ud, ud, (.int .i64 0), x31, ud, ud, ud, x0, x10, x11, x0, x13, x14, x15] 10 (Ap [x0, x27, x28, x29, x1, x31, x31, x33, x31, x35, x0, x37, x37] 203)).toArray, []⟩) (by kernel_rfl) ?_
    refine ls_skip (d := some 42) (by kernel_rfl) (by rw [hb_14]; kernel_rfl) ?_
    refine ls_skip (d := some 43) (by kernel_rfl) (by kernel_rfl) ?_
    refine ls_skip (d := some 44) (by kernel_rfl) (by kernel_rfl) ?_
    refine ls_skip (d := some 45) (by kernel_rfl) (by kernel_rfl) ?_
    refine ls_skip (d := some 46) (by kernel_rfl) (by rw [hb_14]; kernel_rfl) ?_
    refine ls_pick_f (y := (.bool false)) (by kernel_rfl) (by rw [hb_14]; kernel_rfl) (by kernel_rfl) ?_
    refine ls_nil (then_normal ?_)
    exact ⟨(fun i => (Ap [] 8).getD i ud), (.bool false), h_6, by kernel_rfl, HA_6, H⟩
   ·rintro _ w_7 ⟨D_1, x47, h_7, rfl, HA_7, H⟩
    refine ls_nil (then_normal ?_)
    refine fr_eq (b := ⟨(Aq [x0, x35, ud, ud, (.int .i64 0), x31, ud, ud, ud, x0, x10, x11, x0, x13, x14, x15] 10 ([x0, x27, x28, x29, x1, x31, x31, x33, x31, x35, x0, x37, x37] ++ (Ad D_1 0 8 (Ap [x47] 194)))).toArray, []⟩) (by kernel_rfl) ?_
    refine wp_if rfl H (fun H => ?_) (fun H => ?_)
    ·refine wp_seq (lwp_list ?_)
     refine ls_move (x := x0) (by kernel_rfl) (by kernel_rfl) ?_
     refine ls_move (x := x0) (by kernel_rfl) (by kernel_rfl) ?_
     refine ls_move (x := x35) (by kernel_rfl) (by kernel_rfl) ?_
     refine ls_d (d := some 51) (by kernel_rfl) (by kernel_rfl) HA_7 (d_call (by kernel_rfl) (by kernel_rfl) H) (fun x51 h_8 w_8 H HA_8 => ?_)
     refine ls_p (d := some 52) (by kernel_rfl) (by kernel_rfl) (p_nil (by kernel_rfl) H) (fun x52 H => ?_)
     refine ls_p (d := some 53) (by kernel_rfl) (by kernel_rfl) (p_off Try.underlying48 rfl (fun w => ⟨_, Try.sizeOf4 w⟩) rfl (by kernel_rfl) H) (fun x53 H => ?_)
     refine ls_fr (b := ⟨(Aq [x0, x35, ud, ud, (.int .i64 0), x31, ud, ud, ud, x0, x10, x11, x0, x13, x14, x15] 10 ([x0, x27, x28, x29, x1, x31, x31, x33, x31, x35, x0, x37, x37] ++ (Ad D_1 0 8 (Ap [x47, x0, x0, x35, x51, x52, x53] 188)))).toArray, []⟩) (by kernel_rfl) ?_
     refine ls_d (d := none) (by kernel_rfl) (by kernel_rfl) HA_8 (d_st Try.sizeOf4 (by kernel_rfl) (by kernel_rfl) H) (fun _ h_9 w_9 H HA_9 => ?_)
     refine ls_nil (then_normal ?_)
     refine fr_eq (b := ⟨(Aq [x0, x35, ud, ud, (.int .i64 0), x31, ud, ud, ud, x0, x10, x11, x0, x13, x14, x15] 10 ([x0, x27, x28, x29, x1, x31, x31, x33, x31, x35, x0, x37, x37] ++ (Ad D_1 0 8 (Ap [x47, x0, x0, x35, x51, x52, x53] 188)))).toArray, []⟩) (by kernel_rfl) ?_
     refine wp_seq (lwp_list ?_)
     refine ls_assign (x := (.int .i64 0)) (by kernel_rfl) (by kernel_rfl) ?_
     refine ls_nil (then_normal ?_)
     refine fr_eq (b := ⟨(Aq [x0, x35, ud, ud, (.int .i64 0), x31, ud, ud, ud, x0, x10, x11, x0, x13, x14, x15] 10 ([x0, x27, x28, x29, x1, x31, x31, x33, x31, x35, x0, x37, x37] ++ (Ad D_1 0 8 (Ap [x47, x0, x0, x35, x51, x52, x53] 188)))).toArray, []⟩) (by kernel_rfl) ?_
     refine wp_ret ?_
     refine then_ret ?_
     exact end1 (Try.results23) (by kernel_rfl) (by kernel_rfl) HA_9 H _ (.inr rfl)
    ·refine wp_skip ?_
     refine then_normal ?_
     refine fr_eq (b := ⟨(Aq [x0, x35, ud, ud, (.int .i64 0), x31, ud, ud, ud, x0, x10, x11, x0, x13, x14, x15] 10 ([x0, x27, x28, x29, x1, x31, x31, x33, x31, x35, x0, x37, x37] ++ (Ad D_1 0 8 (Ap [x47] 194)))).toArray, []⟩) (by kernel_rfl) ?_
     refine wp_seq ?_
     refine wp_seq (lwp_list ?_)
     refine ls_move (x := x0) (by kernel_rfl) (by kernel_rfl) ?_
     refine ls_d (d := some 55) (by kernel_rfl) (by kernel_rfl) HA_7 (d_call (by kernel_rfl) (by kernel_rfl) H) (fun x55 h_10 w_10 H HA_10 => ?_)
     refine ls_move (x := x55) (by kernel_rfl) (by kernel_rfl) ?_
     refine ls_andh [(), (), ()] (fun K a w => ∃ (D_2 : Nat → Value) (x59 : Value) (h_11 : Heap), a = ⟨(Aq [x0, x35, ud, ud, (.int .i64 0), x31, ud, ud, ud, x0, x10, x11, x0, x13, x14, x15] 10 ([x0, x27, x28, x29, x1, x31, x31, x33, x31, x35, x0, x37, x37] ++ (Ad D_1 0 8 (Aq [x47] 6 (Ap [x0, x55, x55, (D_2 0), (D_2 1), x59] 182))))).toArray, []⟩ ∧ At w0 w h_11 ∧ K x59 h_11) H (fun hb_13 H => ?_) (fun hb_13 H => ?_) ?_
     ·refine ls_move (x := x0) (by rw [hb_13]; kernel_rfl) (by kernel_rfl) ?_
      refine ls_d (d := some 58) (by kernel_rfl) (by rw [hb_13]; kernel_rfl) HA_10 (d_call (by kernel_rfl) (by kernel_rfl) H) (fun x58 h_81 w_81 H HA_81 => ?_)
      refine ls_pick_t (x := x58) (by kernel_rfl) (by rw [hb_13]; kernel_rfl) (by kernel_rfl) ?_
      refine ls_nil (then_normal ?_)
      exact ⟨(fun i => ([x0, x58]).getD i ud), x58, h_81, by kernel_rfl, HA_81, H⟩
     ·refine ls_skip (d := some 57) (by kernel_rfl) (by rw [hb_13]; kernel_rfl) ?_
      refine ls_skip (d := some 58) (by kernel_rfl) (by rw [hb_13]; kernel_rfl) ?_
      refine ls_pick_f (y := (.bool false)) (by kernel_rfl) (by rw [hb_13]; kernel_rfl) (by kernel_rfl) ?_
      refine ls_nil (then_normal ?_)
      exact ⟨(fun i => ([ud, ud]).getD i ud), (.bool false), h_10, by kernel_rfl, HA_10, H⟩
     ·rintro _ w_11 ⟨D_2, x59, h_11, rfl, HA_11, H⟩
      refine ls_nil (then_normal ?_)
      refine fr_eq (b := ⟨(Aq [x0, x35, ud, ud, (.int .i64 0), x31, ud, ud, ud, x0, x10, x11, x0, x13, x14, x15] 10 ([x0, x27, x28, x29, x1, x31, x31, x33, x31, x35, x0, x37, x37] ++ (Ad D_1 0 8 (Aq [x47] 6 (Ap [x0, x55, x55, (D_2 0), (D_2 1), x59] 182))))).toArray, []⟩) (by kernel_rfl) ?_
      refine wp_join (fun a w => ∃ (D_3 : Nat → Value) (h_12 : Heap), a = ⟨(Aq [x0, x35, ud, ud, (.int .i64 0), x31, ud, ud, ud, x0, x10, x11, x0, x13, x14, x15] 10 ([x0, x27, x28, x29, x1, x31, x31, x33, x31, x35, x0, x37, x37] ++ (Ad D_1 0 8 (Aq [x47] 6 (Ap [x0, x55, x55, (D_2 0), (D_2 1), x59, (D_3 0), (D_3 1), (D_3 2)] 179))))).toArray, []⟩ ∧ At w0 w h_12 ∧ betonyref18_Disc_Input_j2 R x0 x35 h_12) ?_ ?_
      ·refine wp_if rfl H (fun H => ?_) (fun H => ?_)
       ·refine lwp_list ?_
        refine ls_move (x := x0) (by kernel_rfl) (by kernel_rfl) ?_
        refine ls_p (d := some 61) (by kernel_rfl) (by kernel_rfl) (p_nil (by kernel_rfl) H) (fun x61 H => ?_)
        refine ls_p (d := some 62) (by kernel_rfl) (by kernel_rfl) (p_off Try.underlying48 rfl (fun w => ⟨_, Try.sizeOf4 w⟩) rfl (by kernel_rfl) H) (fun x62 H => ?_)
        refine ls_d (d := none) (by kernel_rfl) (by kernel_rfl) HA_11 (d_st Try.sizeOf4 (by kernel_rfl) (by kernel_rfl) H) (fun _ h_80 w_80 H HA_80 => ?_)
        refine ls_nil ?_
        exact ⟨(fun i => ([x0, x61, x62]).getD i ud), h_80, by kernel_rfl, HA_80, H⟩
       ·refine wp_skip ?_
        exact ⟨(fun i => ([ud, ud, ud]).getD i ud), h_11, by kernel_rfl, HA_11, H⟩
      ·rintro _ w_12 ⟨D_3, h_12, rfl, HA_12, H⟩
       unfold betonyref18_Disc_Input_j2 at H
       refine then_normal ?_
       refine fr_eq (b := ⟨(Aq [x0, x35, ud, ud, (.int .i64 0), x31, ud, ud, ud, x0, x10, x11, x0, x13, x14, x15] 10 ([x0, x27, x28, x29, x1, x31, x31, x33, x31, x35, x0, x37, x37] ++ (Ad D_1 0 8 (Aq [x47] 6 (Ap [x0, x55, x55, (D_2 0), (D_2 1), x59, (D_3 0), (D_3 1), (D_3 2)] 179))))).toArray, []⟩) (by kernel_rfl) ?_
       refine wp_seq ?_
       refine wp_seq (lwp_list ?_)
       refine ls_assign (x := (.int .i64 0)) (by kernel_rfl) (by kernel_rfl) ?_
       refine ls_nil (then_normal ?_)
       refine fr_eq (b := ⟨(Aq [x0, x35, ud, ud, (.int .i64 0), x31, (.int .i64 0), ud, ud, x0, x10, x11, x0, x13, x14, x15] 10 ([x0, x27, x28, x29, x1, x31, x31, x33, x31, x35, x0, x37, x37] ++ (Ad D_1 0 8 (Aq [x47] 6 (Ap [x0, x55, x55, (D_2 0), (D_2 1), x59, (D_3 0), (D_3 1), (D_3 2)] 179))))).toArray, []⟩) (by kernel_rfl) ?_
       refine wp_block ?_
       obtain ⟨I, m, H0, HB⟩ := H
       refine wp_loop (fun a w => ∃ (D_4 : Nat → Value) (x6 : Value) (h_13 : Heap), a = ⟨(Aq [x0, x35, ud, ud, (D_4 0), x31, x6, ud, ud, x0, x10, x11, x0, x13, x14, x15] 10 ([x0, x27, x28, x29, x1, x31, x31, x33, x31, x35, x0, x37, x37] ++ (Ad D_1 0 8 (Aq [x47] 6 ([x0, x55, x55, (D_2 0), (D_2 1), x59, (D_3 0), (D_3 1), (D_3 2)] ++ (Ad D_4 1 25 (Ap [] 154))))))).toArray, []⟩ ∧ At w0 w h_13 ∧ I x6 h_13) (fun a w => m (a.tmps.getD 6 ud) w.heap) ?_ ?_
       ·exact ⟨(fun i => (Ap [(.int .i64 0)] 25).getD i ud), (.int .i64 0), h_12, by kernel_rfl, HA_12, H0⟩
       ·rintro _ w_13 ⟨D_4, x6, h_13, rfl, HA_13, HI⟩
        have H : betonyref18_Disc_Input_l3 R x0 x35 (fun x6' h' => I x6' h' ∧ m x6' h' < m x6 h_13) x6 h_13 := HB x6 h_13 HI
        clear HB H0 HI
        unfold betonyref18_Disc_Input_l3 at H
        refine wp_seq ?_
        refine wp_seq (lwp_list ?_)
        refine ls_move (x := x6) (by kernel_rfl) (by kernel_rfl) ?_
        refine ls_p (d := some 64) (by kernel_rfl) (by kernel_rfl) (p_sLt (by kernel_rfl) (by kernel_rfl) H) (fun x64 H => ?_)
        refine ls_move (x := x64) (by kernel_rfl) (by kernel_rfl) ?_
        refine ls_andh [(), (), ()] (fun K a w => ∃ (D_5 : Nat → Value) (x68 : Value) (h_14 : Heap), a = ⟨(Aq [x0, x35, ud, ud, (D_4 0), x31, x6, ud, ud, x0, x10, x11, x0, x13, x14, x15] 10 ([x0, x27, x28, x29, x1, x31, x31, x33, x31, x35, x0, x37, x37] ++ (Ad D_1 0 8 (Aq [x47] 6 ([x0, x55, x55, (D_2 0), (D_2 1), x59, (D_3 0), (D_3 1), (D_3 2), x6, x64, x64, (D_5 0), (D_5 1), x68] ++ (Ad D_4 7 19 (Ap [] 154))))))).toArray, []⟩ ∧ At w0 w h_14 ∧ K x68 h_14) H (fun hb_12 H => ?_) (fun hb_12 H => ?_) ?_
        ·refine ls_move (x := x0) (by rw [hb_12]; kernel_rfl) (by kernel_rfl) ?_
         refine ls_d (d := some 67) (by kernel_rfl) (by rw [hb_12]; kernel_rfl) HA_13 (d_call (by kernel_rfl) (by kernel_rfl) H) (fun x67 h_79 w_79 H HA_79 => ?_)
         refine ls_pick_t (x := x67) (by kernel_rfl) (by rw [hb_12]; kernel_rfl) (by kernel_rfl) ?_
         refine ls_nil (then_normal ?_)
         exact ⟨(fun i => ([x0, x67]).getD i ud), x67, h_79, by kernel_rfl, HA_79, H⟩
        ·refine ls_skip (d := some 66) (by kernel_rfl) (by rw [hb_12]; kernel_rfl) ?_
         refine ls_skip (d := some 67) (by kernel_rfl) (by rw [hb_12]; kernel_rfl) ?_
         refine ls_pick_f (y := (.bool false)) (by kernel_rfl) (by rw [hb_12]; kernel_rfl) (by kernel_rfl) ?_
         refine ls_nil (then_normal ?_)
         exact ⟨(fun i => ([ud, ud]).getD i ud), (.bool false), h_13, by kernel_rfl, HA_13, H⟩
        ·rintro _ w_14 ⟨D_5, x68, h_14, rfl, HA_14, H⟩
         refine ls_nil (then_normal ?_)
         refine fr_eq (b := ⟨(Aq [x0, x35, ud, ud, (D_4 0), x31, x6, ud, ud, x0, x10, x11, x0, x13, x14, x15] 10 ([x0, x27, x28, x29, x1, x31, x31, x33, x31, x35, x0, x37, x37] ++ (Ad D_1 0 8 (Aq [x47] 6 ([x0, x55, x55, (D_2 0), (D_2 1), x59, (D_3 0), (D_3 1), (D_3 2), x6, x64, x64, (D_5 0), (D_5 1), x68] ++ (Ad D_4 7 19 (Ap [] 154))))))).toArray, []⟩) (by kernel_rfl) ?_
         refine wp_if rfl H (fun H => ?_) (fun H => ?_)
         ·refine wp_skip ?_
          refine then_normal ?_
          refine fr_eq (b := ⟨(Aq [x0, x35, ud, ud, (D_4 0), x31, x6, ud, ud, x0, x10, x11, x0, x13, x14, x15] 10 ([x0, x27, x28, x29, x1, x31, x31, x33, x31, x35, x0, x37, x37] ++ (Ad D_1 0 8 (Aq [x47] 6 ([x0, x55, x55, (D_2 0), (D_2 1), x59, (D_3 0), (D_3 1), (D_3 2), x6, x64, x64, (D_5 0), (D_5 1), x68] ++ (Ad D_4 7 19 (Ap [] 154))))))).toArray, []⟩) (by kernel_rfl) ?_
          refine wp_seq ?_
          refine wp_block ?_
          refine wp_seq (lwp_list ?_)
          refine ls_move (x := x0) (by kernel_rfl) (by kernel_rfl) ?_
          refine ls_move (x := x6) (by kernel_rfl) (by kernel_rfl) ?_
          refine ls_move (x := x35) (by kernel_rfl) (by kernel_rfl) ?_
          refine ls_d (d := some 74) (by kernel_rfl) (by kernel_rfl) HA_14 (d_call (by kernel_rfl) (by kernel_rfl) H) (fun x74 h_15 w_15 H HA_15 => ?_)
          refine ls_nil (then_normal ?_)
          refine fr_eq (b := ⟨(Aq [x0, x35, ud, ud, (D_4 0), x31, x6, ud, ud, x0, x10, x11, x0, x13, x14, x15] 10 ([x0, x27, x28, x29, x1, x31, x31, x33, x31, x35, x0, x37, x37] ++ (Ad D_1 0 8 (Aq [x47] 6 ([x0, x55, x55, (D_2 0), (D_2 1), x59, (D_3 0), (D_3 1), (D_3 2), x6, x64, x64, (D_5 0), (D_5 1), x68, (D_4 7), (D_4 8), x0, x6, x35, x74] ++ (Ad D_4 13 13 (Ap [] 154))))))).toArray, []⟩) (by kernel_rfl) ?_
          refine wp_if rfl H (fun H => ?_) (fun H => ?_)
          ·refine wp_seq (lwp_list ?_)
           refine ls_move (x := x0) (by kernel_rfl) (by kernel_rfl) ?_
           refine ls_move (x := x35) (by kernel_rfl) (by kernel_rfl) ?_
           refine ls_d (d := some 77) (by kernel_rfl) (by kernel_rfl) HA_15 (d_call (by kernel_rfl) (by kernel_rfl) H) (fun x77 h_16 w_16 H HA_16 => ?_)
           refine ls_nil (then_normal ?_)
           refine fr_eq (b := ⟨(Aq [x0, x35, ud, ud, (D_4 0), x31, x6, ud, ud, x0, x10, x11, x0, x13, x14, x15] 10 ([x0, x27, x28, x29, x1, x31, x31, x33, x31, x35, x0, x37, x37] ++ (Ad D_1 0 8 (Aq [x47] 6 ([x0, x55, x55, (D_2 0), (D_2 1), x59, (D_3 0), (D_3 1), (D_3 2), x6, x64, x64, (D_5 0), (D_5 1), x68, (D_4 7), (D_4 8), x0, x6, x35, x74, x0, x35, x77] ++ (Ad D_4 16 10 (Ap [] 154))))))).toArray, []⟩) (by kernel_rfl) ?_
           refine wp_seq ?_
           refine wp_seq (lwp_list ?_)
           refine ls_move (x := x0) (by kernel_rfl) (by kernel_rfl) ?_
           refine ls_d (d := some 79) (by kernel_rfl) (by kernel_rfl) HA_16 (d_call (by kernel_rfl) (by kernel_rfl) H) (fun x79 h_17 w_17 H HA_17 => ?_)
           refine ls_p (d := some 80) (by kernel_rfl) (by kernel_rfl) (p_not (by kernel_rfl) H) (fun x80 H => ?_)
           refine ls_nil (then_normal ?_)
           refine fr_eq (b := ⟨(Aq [x0, x35, ud, ud, (D_4 0), x31, x6, ud, ud, x0, x10, x11, x0, x13, x14, x15] 10 ([x0, x27, x28, x29, x1, x31, x31, x33, x31, x35, x0, x37, x37] ++ (Ad D_1 0 8 (Aq [x47] 6 ([x0, x55, x55, (D_2 0), (D_2 1), x59, (D_3 0), (D_3 1), (D_3 2), x6, x64, x64, (D_5 0), (D_5 1), x68, (D_4 7), (D_4 8), x0, x6, x35, x74, x0, x35, x77, x0, x79, x80] ++ (Ad D_4 19 7 (Ap [] 154))))))).toArray, []⟩) (by kernel_rfl) ?_
           refine wp_join (fun a w => ∃ (D_6 : Nat → Value) (h_18 : Heap), a = ⟨(Aq [x0, x35, ud, ud, (D_4 0), x31, x6, ud, ud, x0, x10, x11, x0, x13, x14, x15] 10 ([x0, x27, x28, x29, x1, x31, x31, x33, x31, x35, x0, x37, x37] ++ (Ad D_1 0 8 (Aq [x47] 6 ([x0, x55, x55, (D_2 0), (D_2 1), x59, (D_3 0), (D_3 1), (D_3 2), x6, x64, x64, (D_5 0), (D_5 1), x68, (D_4 7), (D_4 8), x0, x6, x35, x74, x0, x35, x77, x0, x79, x80] ++ (Ad D_6 0 5 (Ap [(D_4 24), (D_4 25)] 154))))))).toArray, []⟩ ∧ At w0 w h_18 ∧ betonyref18_Disc_Input_j4 R x6 h_18) ?_ ?_
           ·refine wp_if rfl H (fun H => ?_) (fun H => ?_)
            ·refine wp_seq (lwp_list ?_)
             refine ls_move (x := x0) (by kernel_rfl) (by kernel_rfl) ?_
             refine ls_d (d := some 82) (by kernel_rfl) (by kernel_rfl) HA_17 (d_call (by kernel_rfl) (by kernel_rfl) H) (fun x82 h_19 w_19 H HA_19 => ?_)
             refine ls_nil (then_normal ?_)
             refine fr_eq (b := ⟨(Aq [x0, x35, ud, ud, (D_4 0), x31, x6, ud, ud, x0, x10, x11, x0, x13, x14, x15] 10 ([x0, x27, x28, x29, x1, x31, x31, x33, x31, x35, x0, x37, x37] ++ (Ad D_1 0 8 (Aq [x47] 6 ([x0, x55, x55, (D_2 0), (D_2 1), x59, (D_3 0), (D_3 1), (D_3 2), x6, x64, x64, (D_5 0), (D_5 1), x68, (D_4 7), (D_4 8), x0, x6, x35, x74, x0, x35, x77, x0, x79, x80, x0, x82] ++ (Ad D_4 21 5 (Ap [] 154))))))).toArray, []⟩) (by kernel_rfl) ?_
             refine lwp_list ?_
             refine ls_move (x := x0) (by kernel_rfl) (by kernel_rfl) ?_
             refine ls_p (d := some 84) (by kernel_rfl) (by kernel_rfl) (p_nil (by kernel_rfl) H) (fun x84 H => ?_)
             refine ls_p (d := some 85) (by kernel_rfl) (by kernel_rfl) (p_off Try.underlying48 rfl (fun w => ⟨_, Try.sizeOf4 w⟩) rfl (by kernel_rfl) H) (fun x85 H => ?_)
             refine ls_d (d := none) (by kernel_rfl) (by kernel_rfl) HA_19 (d_st Try.sizeOf4 (by kernel_rfl) (by kernel_rfl) H) (fun _ h_20 w_20 H HA_20 => ?_)
             refine ls_nil ?_
             exact ⟨(fun i => ([x0, x82, x0, x84, x85]).getD i ud), h_20, by kernel_rfl, HA_20, H⟩
            ·refine wp_skip ?_
             exact ⟨(fun i => (Ad D_4 19 5 []).getD i ud), h_17, by kernel_rfl, HA_17, H⟩
           ·rintro _ w_18 ⟨D_6, h_18, rfl, HA_18, H⟩
            unfold betonyref18_Disc_Input_j4 at H
            refine then_normal ?_
            refine fr_eq (b := ⟨(Aq [x0, x35, ud, ud, (D_4 0), x31, x6, ud, ud, x0, x10, x11, x0, x13, x14, x15] 10 ([x0, x27, x28, x29, x1, x31, x31, x33, x31, x35, x0, x37, x37] ++ (Ad D_1 0 8 (Aq [x47] 6 ([x0, x55, x55, (D_2 0), (D_2 1), x59, (D_3 0), (D_3 1), (D_3 2), x6, x64, x64, (D_5 0), (D_5 1), x68, (D_4 7), (D_4 8), x0, x6, x35, x74, x0, x35, x77, x0, x79, x80] ++ (Ad D_6 0 5 (Ap [(D_4 24), (D_4 25)] 154))))))).toArray, []⟩) (by kernel_rfl) ?_
            refine wp_seq (lwp_list ?_)
            refine ls_move (x := x6) (by kernel_rfl) (by kernel_rfl) ?_
            refine ls_p (d := some 87) (by kernel_rfl) (by kernel_rfl) (p_add (by kernel_rfl) (by kernel_rfl) H) (fun x87 H => ?_)
            refine ls_assign (x := x87) (by kernel_rfl) (by kernel_rfl) ?_
            refine ls_nil (then_normal ?_)
            refine fr_eq (b := ⟨(Aq [x0, x35, ud, ud, x87, x31, x6, ud, ud, x0, x10, x11, x0, x13, x14, x15] 10 ([x0, x27, x28, x29, x1, x31, x31, x33, x31, x35, x0, x37, x37] ++ (Ad D_1 0 8 (Aq [x47] 6 ([x0, x55, x55, (D_2 0), (D_2 1), x59, (D_3 0), (D_3 1), (D_3 2), x6, x64, x64, (D_5 0), (D_5 1), x68, (D_4 7), (D_4 8), x0, x6, x35, x74, x0, x35, x77, x0, x79, x80] ++ (Ad D_6 0 5 (Ap [x6, x87] 154))))))).toArray, []⟩) (by kernel_rfl) ?_
            refine wp_ret ?_
            refine block_ret ?_
            refine then_ret ?_
            refine then_ret ?_
            refine block_ret ?_
            refine then_ret ?_
            exact end1 (Try.results23) (by kernel_rfl) (by kernel_rfl) HA_18 H _ (.inr rfl)
          ·refine wp_skip ?_
           refine block_normal ?_
           refine then_normal ?_
           refine fr_eq (b := ⟨(Aq [x0, x35, ud, ud, (D_4 0), x31, x6, ud, ud, x0, x10, x11, x0, x13, x14, x15] 10 ([x0, x27, x28, x29, x1, x31, x31, x33, x31, x35, x0, x37, x37] ++ (Ad D_1 0 8 (Aq [x47] 6 ([x0, x55, x55, (D_2 0), (D_2 1), x59, (D_3 0), (D_3 1), (D_3 2), x6, x64, x64, (D_5 0), (D_5 1), x68, (D_4 7), (D_4 8), x0, x6, x35, x74] ++ (Ad D_4 13 13 (Ap [] 154))))))).toArray, []⟩) (by kernel_rfl) ?_
           refine lwp_list ?_
           refine ls_move (x := x6) (by kernel_rfl) (by kernel_rfl) ?_
           refine ls_p (d := some 70) (by kernel_rfl) (by kernel_rfl) (p_add (by kernel_rfl) (by kernel_rfl) H) (fun x70 H => ?_)
           refine ls_assign (x := x70) (by kernel_rfl) (by kernel_rfl) ?_
           refine ls_nil ?_
           exact ⟨⟨(fun i => ([(D_4 0), x6, x64, x64, (D_5 0), (D_5 1), x68, x6, x70, x0, x6, x35, x74] ++ (Ad D_4 13 13 [])).getD i ud), x70, h_15, by kernel_rfl, HA_15, H.1⟩, loop_lt HA_15.heap HA_13.heap (by kernel_rfl) (by kernel_rfl) H.2⟩
         ·refine wp_exit ?_
          refine then_exit ?_
          refine then_exit ?_
          refine block_exit ?_
          refine then_normal ?_
          refine fr_eq (b := ⟨(Aq [x0, x35, ud, ud, (D_4 0), x31, x6, ud, ud, x0, x10, x11, x0, x13, x14, x15] 10 ([x0, x27, x28, x29, x1, x31, x31, x33, x31, x35, x0, x37, x37] ++ (Ad D_1 0 8 (Aq [x47] 6 ([x0, x55, x55, (D_2 0), (D_2 1), x59, (D_3 0), (D_3 1), (D_3 2), x6, x64, x64, (D_5 0), (D_5 1), x68] ++ (Ad D_4 7 19 (Ap [] 154))))))).toArray, []⟩) (by kernel_rfl) ?_
          refine wp_seq ?_
          refine wp_seq (lwp_list ?_)
          refine ls_move (x := x0) (by kernel_rfl) (by kernel_rfl) ?_
          refine ls_d (d := some 89) (by kernel_rfl) (by kernel_rfl) HA_14 (d_call (by kernel_rfl) (by kernel_rfl) H) (fun x89 h_21 w_21 H HA_21 => ?_)
          refine ls_p (d := some 90) (by kernel_rfl) (by kernel_rfl) (p_not (by kernel_rfl) H) (fun x90 H => ?_)
          refine ls_nil (then_normal ?_)
          refine fr_eq (b := ⟨(Aq [x0, x35, ud, ud, (D_4 0), x31, x6, ud, ud, x0, x10, x11, x0, x13, x14, x15] 10 ([x0, x27, x28, x29, x1, x31, x31, x33, x31, x35, x0, x37, x37] ++ (Ad D_1 0 8 (Aq [x47] 6 ([x0, x55, x55, (D_2 0), (D_2 1), x59, (D_3 0), (D_3 1), (D_3 2), x6, x64, x64, (D_5 0), (D_5 1), x68] ++ (Ad D_4 7 19 (Ap [x0, x89, x90] 151))))))).toArray, []⟩) (by kernel_rfl) ?_
          refine wp_if rfl H (fun H => ?_) (fun H => ?_)
          ·refine wp_seq (lwp_list ?_)
           refine ls_move (x := x0) (by kernel_rfl) (by kernel_rfl) ?_
           refine ls_move (x := x35) (by kernel_rfl) (by kernel_rfl) ?_
           refine ls_d (d := some 93) (by kernel_rfl) (by kernel_rfl) HA_21 (d_call (by kernel_rfl) (by kernel_rfl) H) (fun x93 h_22 w_22 H HA_22 => ?_)
           refine ls_nil (then_normal ?_)
           refine fr_eq (b := ⟨(Aq [x0, x35, ud, ud, (D_4 0), x31, x6, ud, ud, x0, x10, x11, x0, x13, x14, x15] 10 ([x0, x27, x28, x29, x1, x31, x31, x33, x31, x35, x0, x37, x37] ++ (Ad D_1 0 8 (Aq [x47] 6 ([x0, x55, x55, (D_2 0), (D_2 1), x59, (D_3 0), (D_3 1), (D_3 2), x6, x64, x64, (D_5 0), (D_5 1), x68] ++ (Ad D_4 7 19 (Ap [x0, x89, x90, x0, x35, x93] 148))))))).toArray, []⟩) (by kernel_rfl) ?_
           refine wp_seq (lwp_list ?_)
           refine ls_assign (x := (.int .i64 0)) (by kernel_rfl) (by kernel_rfl) ?_
           refine ls_nil (then_normal ?_)
           refine fr_eq (b := ⟨(Aq [x0, x35, ud, ud, (.int .i64 0), x31, x6, ud, ud, x0, x10, x11, x0, x13, x14, x15] 10 ([x0, x27, x28, x29, x1, x31, x31, x33, x31, x35, x0, x37, x37] ++ (Ad D_1 0 8 (Aq [x47] 6 ([x0, x55, x55, (D_2 0), (D_2 1), x59, (D_3 0), (D_3 1), (D_3 2), x6, x64, x64, (D_5 0), (D_5 1), x68] ++ (Ad D_4 7 19 (Ap [x0, x89, x90, x0, x35, x93] 148))))))).toArray, []⟩) (by kernel_rfl) ?_
           refine wp_ret ?_
           refine then_ret ?_
           exact end1 (Try.results23) (by kernel_rfl) (by kernel_rfl) HA_22 H _ (.inr rfl)
          ·refine wp_skip ?_
           refine then_normal ?_
           refine fr_eq (b := ⟨(Aq [x0, x35, ud, ud, (D_4 0), x31, x6, ud, ud, x0, x10, x11, x0, x13, x14, x15] 10 ([x0, x27, x28, x29, x1, x31, x31, x33, x31, x35, x0, x37, x37] ++ (Ad D_1 0 8 (Aq [x47] 6 ([x0, x55, x55, (D_2 0), (D_2 1), x59, (D_3 0), (D_3 1), (D_3 2), x6, x64, x64, (D_5 0), (D_5 1), x68] ++ (Ad D_4 7 19 (Ap [x0, x89, x90] 151))))))).toArray, []⟩) (by kernel_rfl) ?_
           refine wp_seq ?_
           refine wp_seq (lwp_list ?_)
           refine ls_move (x := x0) (by kernel_rfl) (by kernel_rfl) ?_
           refine ls_d (d := some 95) (by kernel_rfl) (by kernel_rfl) HA_21 (d_call (by kernel_rfl) (by kernel_rfl) H) (fun x95 h_23 w_23 H HA_23 => ?_)
           refine ls_move (x := x95) (by kernel_rfl) (by kernel_rfl) ?_
           refine ls_andh [(), (), (), ()] (fun K a w => ∃ (D_7 : Nat → Value) (x100 : Value) (h_24 : Heap), a = ⟨(Aq [x0, x35, ud, ud, (D_4 0), x31, x6, ud, ud, x0, x10, x11, x0, x13, x14, x15] 10 ([x0, x27, x28, x29, x1, x31, x31, x33, x31, x35, x0, x37, x37] ++ (Ad D_1 0 8 (Aq [x47] 6 ([x0, x55, x55, (D_2 0), (D_2 1), x59, (D_3 0), (D_3 1), (D_3 2), x6, x64, x64, (D_5 0), (D_5 1), x68] ++ (Ad D_4 7 19 (Ap [x0, x89, x90, ud, ud, ud, x0, x95, x95, (D_7 0), (D_7 1), (D_7 2), x100] 141))))))).toArray, []⟩ ∧ At w0 w h_24 ∧ K x100 h_24) H (fun hb_11 H => ?_) (fun hb_11 H => ?_) ?_
           ·refine ls_move (x := x0) (by rw [hb_11]; kernel_rfl) (by kernel_rfl) ?_
            refine ls_move (x := x35) (by rw [hb_11]; kernel_rfl) (by kernel_rfl) ?_
            refine ls_d (d := some 99) (by kernel_rfl) (by rw [hb_11]; kernel_rfl) HA_23 (d_call (by kernel_rfl) (by kernel_rfl) H) (fun x99 h_78 w_78 H HA_78 => ?_)
            refine ls_fr (b := ⟨(Aq [x0, x35, ud, ud, (D_4 0), x31, x6, ud, ud, x0, x10, x11, x0, x13, x14, x15] 10 ([x0, x27, x28, x29, x1, x31, x31, x33, x31, x35, x0, x37, x37] ++ (Ad D_1 0 8 (Aq [x47] 6 ([x0, x55, x55, (D_2 0), (D_2 1), x59, (D_3 0), (D_3 1), (D_3 2), x6, x64, x64, (D_5 0), (D_5 1), x68] ++ (Ad D_4 7 19 (Ap [x0, x89, x90, ud, ud, ud, x0, x95, x95, x0, x35, x99] 142))))))).toArray, []⟩) (by kernel_rfl) ?_
            refine ls_pick_t (x := x99) (by kernel_rfl) (by rw [hb_11]; kernel_rfl) (by kernel_rfl) ?_
            refine ls_nil (then_normal ?_)
            exact ⟨(fun i => ([x0, x35, x99]).getD i ud), x99, h_78, by kernel_rfl, HA_78, H⟩
           ·refine ls_skip (d := some 97) (by kernel_rfl) (by rw [hb_11]; kernel_rfl) ?_
            refine ls_skip (d := some 98) (by kernel_rfl) (by rw [hb_11]; kernel_rfl) ?_
            refine ls_skip (d := some 99) (by kernel_rfl) (by rw [hb_11]; kernel_rfl) ?_
            refine ls_fr (b := ⟨(Aq [x0, x35, ud, ud, (D_4 0), x31, x6, ud, ud, x0, x10, x11, x0, x13, x14, x15] 10 ([x0, x27, x28, x29, x1, x31, x31, x33, x31, x35, x0, x37, x37] ++ (Ad D_1 0 8 (Aq [x47] 6 ([x0, x55, x55, (D_2 0), (D_2 1), x59, (D_3 0), (D_3 1), (D_3 2), x6, x64, x64, (D_5 0), (D_5 1), x68] ++ (Ad D_4 7 19 (Ap [x0, x89, x90, ud, ud, ud, x0, x95, x95] 145))))))).toArray, []⟩) (by kernel_rfl) ?_
            refine ls_pick_f (y := (.bool false)) (by kernel_rfl) (by rw [hb_11]; kernel_rfl) (by kernel_rfl) ?_
            refine ls_nil (then_normal ?_)
            exact ⟨(fun i => ([ud, ud, ud]).getD i ud), (.bool false), h_23, by kernel_rfl, HA_23, H⟩
           ·rintro _ w_24 ⟨D_7, x100, h_24, rfl, HA_24, H⟩
            refine ls_nil (then_normal ?_)
            refine fr_eq (b := ⟨(Aq [x0, x35, ud, ud, (D_4 0), x31, x6, ud, ud, x0, x10, x11, x0, x13, x14, x15] 10 ([x0, x27, x28, x29, x1, x31, x31, x33, x31, x35, x0, x37, x37] ++ (Ad D_1 0 8 (Aq [x47] 6 ([x0, x55, x55, (D_2 0), (D_2 1), x59, (D_3 0), (D_3 1), (D_3 2), x6, x64, x64, (D_5 0), (D_5 1), x68] ++ (Ad D_4 7 19 (Ap [x0, x89, x90, ud, ud, ud, x0, x95, x95, (D_7 0), (D_7 1), (D_7 2), x100] 141))))))).toArray, []⟩) (by kernel_rfl) ?_
            refine wp_if rfl H (fun H => ?_) (fun H => ?_)
            ·refine wp_seq (lwp_list ?_)
             refine ls_move (x := x0) (by kernel_rfl) (by kernel_rfl) ?_
             refine ls_p (d := some 102) (by kernel_rfl) (by kernel_rfl) (p_nil (by kernel_rfl) H) (fun x102 H => ?_)
             refine ls_p (d := some 103) (by kernel_rfl) (by kernel_rfl) (p_off Try.underlying48 rfl (fun w => ⟨_, Try.sizeOf4 w⟩) rfl (by kernel_rfl) H) (fun x103 H => ?_)
             refine ls_d (d := none) (by kernel_rfl) (by kernel_rfl) HA_24 (d_st Try.sizeOf4 (by kernel_rfl) (by kernel_rfl) H) (fun _ h_25 w_25 H HA_25 => ?_)
             refine ls_nil (then_normal ?_)
             refine fr_eq (b := ⟨(Aq [x0, x35, ud, ud, (D_4 0), x31, x6, ud, ud, x0, x10, x11, x0, x13, x14, x15] 10 ([x0, x27, x28, x29, x1, x31, x31, x33, x31, x35, x0, x37, x37] ++ (Ad D_1 0 8 (Aq [x47] 6 ([x0, x55, x55, (D_2 0), (D_2 1), x59, (D_3 0), (D_3 1), (D_3 2), x6, x64, x64, (D_5 0), (D_5 1), x68] ++ (Ad D_4 7 19 (Ap [x0, x89, x90, ud, ud, ud, x0, x95, x95, (D_7 0), (D_7 1), (D_7 2), x100, x0, x102, x103] 138))))))).toArray, []⟩) (by kernel_rfl) ?_
             refine wp_seq ?_
             refine wp_seq (lwp_list ?_)
             refine ls_move (x := x0) (by kernel_rfl) (by kernel_rfl) ?_
             refine ls_d (d := some 105) (by kernel_rfl) (by kernel_rfl) HA_25 (d_call (by kernel_rfl) (by kernel_rfl) H) (fun x105 h_26 w_26 H HA_26 => ?_)
             refine ls_nil (then_normal ?_)
             refine fr_eq (b := ⟨(Aq [x0, x35, ud, ud, (D_4 0), x31, x6, ud, ud, x0, x10, x11, x0, x13, x14, x15] 10 ([x0, x27, x28, x29, x1, x31, x31, x33, x31, x35, x0, x37, x37] ++ (Ad D_1 0 8 (Aq [x47] 6 ([x0, x55, x55, (D_2 0), (D_2 1), x59, (D_3 0), (D_3 1), (D_3 2), x6, x64, x64, (D_5 0), (D_5 1), x68] ++ (Ad D_4 7 19 (Ap [x0, x89, x90, ud, ud, ud, x0, x95, x95, (D_7 0), (D_7 1), (D_7 2), x100, x0, x102, x103, x0, x105] 136))))))).toArray, []⟩) (by kernel_rfl) ?_
             refine wp_join (fun a w => ∃ (D_8 : Nat → Value) (h_27 : Heap), a = ⟨(Aq [x0, x35, ud, ud, (D_4 0), x31, x6, ud, ud, x0, x10, x11, x0, x13, x14, x15] 10 ([x0, x27, x28, x29, x1, x31, x31, x33, x31, x35, x0, x37, x37] ++ (Ad D_1 0 8 (Aq [x47] 6 ([x0, x55, x55, (D_2 0), (D_2 1), x59, (D_3 0), (D_3 1), (D_3 2), x6, x64, x64, (D_5 0), (D_5 1), x68] ++ (Ad D_4 7 19 (Ap [x0, x89, x90, ud, ud, ud, x0, x95, x95, (D_7 0), (D_7 1), (D_7 2), x100, x0, x102, x103, x0, x105, (D_8 0), (D_8 1), (D_8 2)] 133))))))).toArray, []⟩ ∧ At w0 w h_27 ∧ betonyref18_Disc_Input_j5 R h_27) ?_ ?_
             ·refine wp_if rfl H (fun H => ?_) (fun H => ?_)
              ·refine lwp_list ?_
               refine ls_move (x := x0) (by kernel_rfl) (by kernel_rfl) ?_
               refine ls_d (d := some 107) (by kernel_rfl) (by kernel_rfl) HA_26 (d_slit (zc := #[.int .u8 0]) Try.underlying30 Try.sizeOf5 (by decide) (.inr ⟨by decide, _, Try.zeroValue5, (by kernel_rfl)⟩) (by kernel_rfl) (by kernel_rfl) H) (fun x107 h_28 w_28 H HA_28 => ?_)
               refine ls_d (d := some 108) (by kernel_rfl) (by kernel_rfl) HA_28 (d_call (by kernel_rfl) (by kernel_rfl) H) (fun x108 h_29 w_29 H HA_29 => ?_)
               refine ls_nil ?_
               exact ⟨(fun i => ([x0, x107, x108]).getD i ud), h_29, by kernel_rfl, HA_29, H⟩
              ·refine wp_skip ?_
               exact ⟨(fun i => ([ud, ud, ud]).getD i ud), h_26, by kernel_rfl, HA_26, H⟩
             ·rintro _ w_27 ⟨D_8, h_27, rfl, HA_27, H⟩
              unfold betonyref18_Disc_Input_j5 at H
              refine then_normal ?_
              refine fr_eq (b := ⟨(Aq [x0, x35, ud, ud, (D_4 0), x31, x6, ud, ud, x0, x10, x11, x0, x13, x14, x15] 10 ([x0, x27, x28, x29, x1, x31, x31, x33, x31, x35, x0, x37, x37] ++ (Ad D_1 0 8 (Aq [x47] 6 ([x0, x55, x55, (D_2 0), (D_2 1), x59, (D_3 0), (D_3 1), (D_3 2), x6, x64, x64, (D_5 0), (D_5 1), x68] ++ (Ad D_4 7 19 (Ap [x0, x89, x90, ud, ud, ud, x0, x95, x95, (D_7 0), (D_7 1), (D_7 2), x100, x0, x102, x103, x0, x105, (D_8 0), (D_8 1), (D_8 2)] 133))))))).toArray, []⟩) (by kernel_rfl) ?_
              refine wp_seq (lwp_list ?_)
              refine ls_assign (x := (.int .i64 0)) (by kernel_rfl) (by kernel_rfl) ?_
              refine ls_nil (then_normal ?_)
              refine fr_eq (b := ⟨(Aq [x0, x35, ud, ud, (.int .i64 0), x31, x6, ud, ud, x0, x10, x11, x0, x13, x14, x15] 10 ([x0, x27, x28, x29, x1, x31, x31, x33, x31, x35, x0, x37, x37] ++ (Ad D_1 0 8 (Aq [x47] 6 ([x0, x55, x55, (D_2 0), (D_2 1), x59, (D_3 0), (D_3 1), (D_3 2), x6, x64, x64, (D_5 0), (D_5 1), x68] ++ (Ad D_4 7 19 (Ap [x0, x89, x90, ud, ud, ud, x0, x95, x95, (D_7 0), (D_7 1), (D_7 2), x100, x0, x102, x103, x0, x105, (D_8 0), (D_8 1), (D_8 2)] 133))))))).toArray, []⟩) (by kernel_rfl) ?_
              refine wp_ret ?_
              refine then_ret ?_
              exact end1 (Try.results23) (by kernel_rfl) (by kernel_rfl) HA_27 H _ (.inr rfl)
            ·refine wp_skip ?_
             refine then_normal ?_
             refine fr_eq (b := ⟨(Aq [x0, x35, ud, ud, (D_4 0), x31, x6, ud, ud, x0, x10, x11, x0, x13, x14, x15] 10 ([x0, x27, x28, x29, x1, x31, x31, x33, x31, x35, x0, x37, x37] ++ (Ad D_1 0 8 (Aq [x47] 6 ([x0, x55, x55, (D_2 0), (D_2 1), x59, (D_3 0), (D_3 1), (D_3 2), x6, x64, x64, (D_5 0), (D_5 1), x68] ++ (Ad D_4 7 19 (Ap [x0, x89, x90, ud, ud, ud, x0, x95, x95, (D_7 0), (D_7 1), (D_7 2), x100] 141))))))).toArray, []⟩) (by kernel_rfl) ?_
             refine wp_seq ?_
             refine wp_seq (lwp_list ?_)
             refine ls_move (x := x0) (by kernel_rfl) (by kernel_rfl) ?_
             refine ls_d (d := some 110) (by kernel_rfl) (by kernel_rfl) HA_24 (d_call (by kernel_rfl) (by kernel_rfl) H) (fun x110 h_30 w_30 H HA_30 => ?_)
             refine ls_move (x := x110) (by kernel_rfl) (by kernel_rfl) ?_
             refine ls_andh [(), (), (), ()] (fun K a w => ∃ (D_9 : Nat → Value) (x115 : Value) (h_31 : Heap), a = ⟨(Aq [x0, x35, ud, ud, (D_4 0), x31, x6, ud, ud, x0, x10, x11, x0, x13, x14, x15] 10 ([x0, x27, x28, x29, x1, x31, x31, x33, x31, x35, x0, x37, x37] ++ (Ad D_1 0 8 (Aq [x47] 6 ([x0, x55, x55, (D_2 0), (D_2 1), x59, (D_3 0), (D_3 1), (D_3 2), x6, x64, x64, (D_5 0), (D_5 1), x68] ++ (Ad D_4 7 19 (Aq [x0, x89, x90, ud, ud, ud, x0, x95, x95, (D_7 0), (D_7 1), (D_7 2), x100] 8 (Ap [x0, x110, x110, (D_9 0), (D_9 1), (D_9 2), x115] 126)))))))).toArray, []⟩ ∧ At w0 w h_31 ∧ K x115 h_31) H (fun hb_10 H => ?_) (fun hb_10 H => ?_) ?_
             ·refine ls_move (x := x0) (by rw [hb_10]; kernel_rfl) (by kernel_rfl) ?_
              refine ls_move (x := x35) (by rw [hb_10]; kernel_rfl) (by kernel_rfl) ?_
              refine ls_d (d := some 114) (by kernel_rfl) (by rw [hb_10]; kernel_rfl) HA_30 (d_call (by kernel_rfl) (by kernel_rfl) H) (fun x114 h_77 w_77 H HA_77 => ?_)
              refine ls_fr (b := ⟨(Aq [x0, x35, ud, ud, (D_4 0), x31, x6, ud, ud, x0, x10, x11, x0, x13, x14, x15] 10 ([x0, x27, x28, x29, x1, x31, x31, x33, x31, x35, x0, x37, x37] ++ (Ad D_1 0 8 (Aq [x47] 6 ([x0, x55, x55, (D_2 0), (D_2 1), x59, (D_3 0), (D_3 1), (D_3 2), x6, x64, x64, (D_5 0), (D_5 1), x68] ++ (Ad D_4 7 19 (Aq [x0, x89, x90, ud, ud, ud, x0, x95, x95, (D_7 0), (D_7 1), (D_7 2), x100] 8 (Ap [x0, x110, x110, x0, x35, x114] 127)))))))).toArray, []⟩) (by kernel_rfl) ?_
              refine ls_pick_t (x := x114) (by kernel_rfl) (by rw [hb_10]; kernel_rfl) (by kernel_rfl) ?_
              refine ls_nil (then_normal ?_)
              exact ⟨(fun i => ([x0, x35, x114]).getD i ud), x114, h_77, by kernel_rfl, HA_77, H⟩
             ·refine ls_skip (d := some 112) (by kernel_rfl) (by rw [hb_10]; kernel_rfl) ?_
              refine ls_skip (d := some 113) (by kernel_rfl) (by rw [hb_10]; kernel_rfl) ?_
              refine ls_skip (d := some 114) (by kernel_rfl) (by rw [hb_10]; kernel_rfl) ?_
              refine ls_fr (b := ⟨(Aq [x0, x35, ud, ud, (D_4 0), x31, x6, ud, ud, x0, x10, x11, x0, x13, x14, x15] 10 ([x0, x27, x28, x29, x1, x31, x31, x33, x31, x35, x0, x37, x37] ++ (Ad D_1 0 8 (Aq [x47] 6 ([x0, x55, x55, (D_2 0), (D_2 1), x59, (D_3 0), (D_3 1), (D_3 2), x6, x64, x64, (D_5 0), (D_5 1), x68] ++ (Ad D_4 7 19 (Aq [x0, x89, x90, ud, ud, ud, x0, x95, x95, (D_7 0), (D_7 1), (D_7 2), x100] 8 (Ap [x0, x110, x110] 130)))))))).toArray, []⟩) (by kernel_rfl) ?_
              refine ls_pick_f (y := (.bool false)) (by kernel_rfl) (by rw [hb_10]; kernel_rfl) (by kernel_rfl) ?_
              refine ls_nil (then_normal ?_)
              exact ⟨(fun i => ([ud, ud, ud]).getD i ud), (.bool false), h_30, by kernel_rfl, HA_30, H⟩
             ·rintro _ w_31 ⟨D_9, x115, h_31, rfl, HA_31, H⟩
              refine ls_nil (then_normal ?_)
              refine fr_eq (b := ⟨(Aq [x0, x35, ud, ud, (D_4 0), x31, x6, ud, ud, x0, x10, x11, x0, x13, x14, x15] 10 ([x0, x27, x28, x29, x1, x31, x31, x33, x31, x35, x0, x37, x37] ++ (Ad D_1 0 8 (Aq [x47] 6 ([x0, x55, x55, (D_2 0), (D_2 1), x59, (D_3 0), (D_3 1), (D_3 2), x6, x64, x64, (D_5 0), (D_5 1), x68] ++ (Ad D_4 7 19 (Aq [x0, x89, x90, ud, ud, ud, x0, x95, x95, (D_7 0), (D_7 1), (D_7 2), x100] 8 (Ap [x0, x110, x110, (D_9 0), (D_9 1), (D_9 2), x115] 126)))))))).toArray, []⟩) (by kernel_rfl) ?_
              refine wp_if rfl H (fun H => ?_) (fun H => ?_)
              ·refine wp_seq ?_
               refine wp_block ?_
               obtain ⟨I_1, m_1, H0, HB⟩ := H
               refine wp_loop (fun a w => ∃ (D_10 : Nat → Value) (h_32 : Heap), a = ⟨(Aq [x0, x35, ud, ud, (D_4 0), x31, x6, ud, ud, x0, x10, x11, x0, x13, x14, x15] 10 ([x0, x27, x28, x29, x1, x31, x31, x33, x31, x35, x0, x37, x37] ++ (Ad D_1 0 8 (Aq [x47] 6 ([x0, x55, x55, (D_2 0), (D_2 1), x59, (D_3 0), (D_3 1), (D_3 2), x6, x64, x64, (D_5 0), (D_5 1), x68] ++ (Ad D_4 7 19 (Aq [x0, x89, x90, ud, ud, ud, x0, x95, x95, (D_7 0), (D_7 1), (D_7 2), x100] 8 ([x0, x110, x110, (D_9 0), (D_9 1), (D_9 2), x115] ++ (Ad D_10 0 12 (Ap [] 114)))))))))).toArray, []⟩ ∧ At w0 w h_32 ∧ I_1 () h_32) (fun a w => m_1 () w.heap) ?_ ?_
               ·exact ⟨(fun i => (Ap [] 12).getD i ud), h_31, by kernel_rfl, HA_31, H0⟩
               ·rintro _ w_32 ⟨D_10, h_32, rfl, HA_32, HI⟩
                have H : betonyref18_Disc_Input_l6 R x0 (fun  h' => I_1 () h' ∧ m_1 () h' < m_1 () h_32)  h_32 := HB () h_32 HI
                clear HB H0 HI
                unfold betonyref18_Disc_Input_l6 at H
                refine wp_seq ?_
                refine wp_seq (lwp_list ?_)
                refine ls_move (x := x0) (by kernel_rfl) (by kernel_rfl) ?_
                refine ls_p (d := some 117) (by kernel_rfl) (by kernel_rfl) (p_nil (by kernel_rfl) H) (fun x117 H => ?_)
                refine ls_p (d := some 118) (by kernel_rfl) (by kernel_rfl) (p_off Try.underlying48 rfl (fun w => ⟨_, Try.sizeOf30 w⟩) rfl (by kernel_rfl) H) (fun x118 H => ?_)
                refine ls_y (d := some 119) (by kernel_rfl) (by kernel_rfl) HA_32 (y_ld Try.isAgg30 (by kernel_rfl) H) (fun x119 H => ?_)
                refine ls_p (d := some 120) (by kernel_rfl) (by kernel_rfl) (p_len Try.underlying30 (by kernel_rfl) H) (fun x120 H => ?_)
                refine ls_p (d := some 121) (by kernel_rfl) (by kernel_rfl) (p_sGt (by kernel_rfl) (by kernel_rfl) H) (fun x121 H => ?_)
                refine ls_fr (b := ⟨(Aq [x0, x35, ud, ud, (D_4 0), x31, x6, ud, ud, x0, x10, x11, x0, x13, x14, x15] 10 ([x0, x27, x28, x29, x1, x31, x31, x33, x31, x35, x0, x37, x37] ++ (Ad D_1 0 8 (Aq [x47] 6 ([x0, x55, x55, (D_2 0), (D_2 1), x59, (D_3 0), (D_3 1), (D_3 2), x6, x64, x64, (D_5 0), (D_5 1), x68] ++ (Ad D_4 7 19 (Aq [x0, x89, x90, ud, ud, ud, x0, x95, x95, (D_7 0), (D_7 1), (D_7 2), x100] 8 ([x0, x110, x110, (D_9 0), (D_9 1), (D_9 2), x115, x0, x117, x118, x119, x120, x121] ++ (Ad D_10 6 6 (Ap [] 114)))))))))).toArray, []⟩) (by kernel_rfl) ?_
                refine ls_move (x := x121) (by kernel_rfl) (by kernel_rfl) ?_
                refine ls_andh [(), (), ()] (fun K a w => ∃ (D_11 : Nat → Value) (x125 : Value) (h_33 : Heap), a = ⟨(Aq [x0, x35, ud, ud, (D_4 0), x31, x6, ud, ud, x0, x10, x11, x0, x13, x14, x15] 10 ([x0, x27, x28, x29, x1, x31, x31, x33, x31, x35, x0, x37, x37] ++ (Ad D_1 0 8 (Aq [x47] 6 ([x0, x55, x55, (D_2 0), (D_2 1), x59, (D_3 0), (D_3 1), (D_3 2), x6, x64, x64, (D_5 0), (D_5 1), x68] ++ (Ad D_4 7 19 (Aq [x0, x89, x90, ud, ud, ud, x0, x95, x95, (D_7 0), (D_7 1), (D_7 2), x100] 8 (Ap [x0, x110, x110, (D_9 0), (D_9 1), (D_9 2), x115, x0, x117, x118, x119, x120, x121, x121, (D_11 0), (D_11 1), x125, (D_10 10), (D_10 11)] 114)))))))).toArray, []⟩ ∧ At w0 w h_33 ∧ K x125 h_33) H (fun hb_1 H => ?_) (fun hb_1 H => ?_) ?_
                ·refine ls_move (x := x0) (by rw [hb_1]; kernel_rfl) (by kernel_rfl) ?_
                 refine ls_d (d := some 124) (by kernel_rfl) (by rw [hb_1]; kernel_rfl) HA_32 (d_call (by kernel_rfl) (by kernel_rfl) H) (fun x124 h_39 w_39 H HA_39 => ?_)
                 refine ls_pick_t (x := x124) (by kernel_rfl) (by rw [hb_1]; kernel_rfl) (by kernel_rfl) ?_
                 refine ls_nil (then_normal ?_)
                 exact ⟨(fun i => ([x0, x124]).getD i ud), x124, h_39, by kernel_rfl, HA_39, H⟩
                ·refine ls_skip (d := some 123) (by kernel_rfl) (by rw [hb_1]; kernel_rfl) ?_
                 refine ls_skip (d := some 124) (by kernel_rfl) (by rw [hb_1]; kernel_rfl) ?_
                 refine ls_pick_f (y := (.bool false)) (by kernel_rfl) (by rw [hb_1]; kernel_rfl) (by kernel_rfl) ?_
                 refine ls_nil (then_normal ?_)
                 exact ⟨(fun i => ([ud, ud]).getD i ud), (.bool false), h_32, by kernel_rfl, HA_32, H⟩
                ·rintro _ w_33 ⟨D_11, x125, h_33, rfl, HA_33, H⟩
                 refine ls_nil (then_normal ?_)
                 refine fr_eq (b := ⟨(Aq [x0, x35, ud, ud, (D_4 0), x31, x6, ud, ud, x0, x10, x11, x0, x13, x14, x15] 10 ([x0, x27, x28, x29, x1, x31, x31, x33, x31, x35, x0, x37, x37] ++ (Ad D_1 0 8 (Aq [x47] 6 ([x0, x55, x55, (D_2 0), (D_2 1), x59, (D_3 0), (D_3 1), (D_3 2), x6, x64, x64, (D_5 0), (D_5 1), x68] ++ (Ad D_4 7 19 (Aq [x0, x89, x90, ud, ud, ud, x0, x95, x95, (D_7 0), (D_7 1), (D_7 2), x100] 8 (Ap [x0, x110, x110, (D_9 0), (D_9 1), (D_9 2), x115, x0, x117, x118, x119, x120, x121, x121, (D_11 0), (D_11 1), x125, (D_10 10), (D_10 11)] 114)))))))).toArray, []⟩) (by kernel_rfl) ?_
                 refine wp_if rfl H (fun H => ?_) (fun H => ?_)
                 ·refine wp_skip ?_
                  refine then_normal ?_
                  refine fr_eq (b := ⟨(Aq [x0, x35, ud, ud, (D_4 0), x31, x6, ud, ud, x0, x10, x11, x0, x13, x14, x15] 10 ([x0, x27, x28, x29, x1, x31, x31, x33, x31, x35, x0, x37, x37] ++ (Ad D_1 0 8 (Aq [x47] 6 ([x0, x55, x55, (D_2 0), (D_2 1), x59, (D_3 0), (D_3 1), (D_3 2), x6, x64, x64, (D_5 0), (D_5 1), x68] ++ (Ad D_4 7 19 (Aq [x0, x89, x90, ud, ud, ud, x0, x95, x95, (D_7 0), (D_7 1), (D_7 2), x100] 8 (Ap [x0, x110, x110, (D_9 0), (D_9 1), (D_9 2), x115, x0, x117, x118, x119, x120, x121, x121, (D_11 0), (D_11 1), x125, (D_10 10), (D_10 11)] 114)))))))).toArray, []⟩) (by kernel_rfl) ?_
                  refine wp_block ?_
                  refine lwp_list ?_
                  refine ls_move (x := x0) (by kernel_rfl) (by kernel_rfl) ?_
                  refine ls_d (d := some 127) (by kernel_rfl) (by kernel_rfl) HA_33 (d_call (by kernel_rfl) (by kernel_rfl) H) (fun x127 h_34 w_34 H HA_34 => ?_)
                  refine ls_nil ?_
                  refine block_normal ?_
                  exact ⟨⟨(fun i => ([x0, x117, x118, x119, x120, x121, x121, (D_11 0), (D_11 1), x125, x0, x127]).getD i ud), h_34, by kernel_rfl, HA_34, H.1⟩, loop_lt HA_34.heap HA_32.heap (by kernel_rfl) (by kernel_rfl) H.2⟩
                 ·refine wp_exit ?_
                  refine then_exit ?_
                  refine then_exit ?_
                  refine block_exit ?_
                  refine then_normal ?_
                  refine fr_eq (b := ⟨(Aq [x0, x35, ud, ud, (D_4 0), x31, x6, ud, ud, x0, x10, x11, x0, x13, x14, x15] 10 ([x0, x27, x28, x29, x1, x31, x31, x33, x31, x35, x0, x37, x37] ++ (Ad D_1 0 8 (Aq [x47] 6 ([x0, x55, x55, (D_2 0), (D_2 1), x59, (D_3 0), (D_3 1), (D_3 2), x6, x64, x64, (D_5 0), (D_5 1), x68] ++ (Ad D_4 7 19 (Aq [x0, x89, x90, ud, ud, ud, x0, x95, x95, (D_7 0), (D_7 1), (D_7 2), x100] 8 (Ap [x0, x110, x110, (D_9 0), (D_9 1), (D_9 2), x115, x0, x117, x118, x119, x120, x121, x121, (D_11 0), (D_11 1), x125, (D_10 10), (D_10 11)] 114)))))))).toArray, []⟩) (by kernel_rfl) ?_
                  refine wp_seq ?_
                  refine wp_block ?_
                  obtain ⟨I_2, m_2, H0, HB⟩ := H
                  refine wp_loop (fun a w => ∃ (D_12 : Nat → Value) (h_35 : Heap), a = ⟨(Aq [x0, x35, ud, ud, (D_4 0), x31, x6, ud, ud, x0, x10, x11, x0, x13, x14, x15] 10 ([x0, x27, x28, x29, x1, x31, x31, x33, x31, x35, x0, x37, x37] ++ (Ad D_1 0 8 (Aq [x47] 6 ([x0, x55, x55, (D_2 0), (D_2 1), x59, (D_3 0), (D_3 1), (D_3 2), x6, x64, x64, (D_5 0), (D_5 1), x68] ++ (Ad D_4 7 19 (Aq [x0, x89, x90, ud, ud, ud, x0, x95, x95, (D_7 0), (D_7 1), (D_7 2), x100] 8 ([x0, x110, x110, (D_9 0), (D_9 1), (D_9 2), x115, x0, x117, x118, x119, x120, x121, x121, (D_11 0), (D_11 1), x125, (D_10 10), (D_10 11)] ++ (Ad D_12 0 13 (Ap [] 101)))))))))).toArray, []⟩ ∧ At w0 w h_35 ∧ I_2 () h_35) (fun a w => m_2 () w.heap) ?_ ?_
                  ·exact ⟨(fun i => (Ap [] 13).getD i ud), h_33, by kernel_rfl, HA_33, H0⟩
                  ·rintro _ w_35 ⟨D_12, h_35, rfl, HA_35, HI⟩
                   have H : betonyref18_Disc_Input_l7 R x0 (fun  h' => I_2 () h' ∧ m_2 () h' < m_2 () h_35)  h_35 := HB () h_35 HI
                   clear HB H0 HI
                   unfold betonyref18_Disc_Input_l7 at H
                   refine wp_seq ?_
                   refine wp_seq (lwp_list ?_)
                   refine ls_move (x := x0) (by kernel_rfl) (by kernel_rfl) ?_
                   refine ls_p (d := some 129) (by kernel_rfl) (by kernel_rfl) (p_nil (by kernel_rfl) H) (fun x129 H => ?_)
                   refine ls_p (d := some 130) (by kernel_rfl) (by kernel_rfl) (p_off Try.underlying48 rfl (fun w => ⟨_, Try.sizeOf30 w⟩) rfl (by kernel_rfl) H) (fun x130 H => ?_)
                   refine ls_y (d := some 131) (by kernel_rfl) (by kernel_rfl) HA_35 (y_ld Try.isAgg30 (by kernel_rfl) H) (fun x131 H => ?_)
                   refine ls_p (d := some 132) (by kernel_rfl) (by kernel_rfl) (p_len Try.underlying30 (by kernel_rfl) H) (fun x132 H => ?_)
                   refine ls_p (d := some 133) (by kernel_rfl) (by kernel_rfl) (p_sGt (by kernel_rfl) (by kernel_rfl) H) (fun x133 H => ?_)
                   refine ls_fr (b := ⟨(Aq [x0, x35, ud, ud, (D_4 0), x31, x6, ud, ud, x0, x10, x11, x0, x13, x14, x15] 10 ([x0, x27, x28, x29, x1, x31, x31, x33, x31, x35, x0, x37, x37] ++ (Ad D_1 0 8 (Aq [x47] 6 ([x0, x55, x55, (D_2 0), (D_2 1), x59, (D_3 0), (D_3 1), (D_3 2), x6, x64, x64, (D_5 0), (D_5 1), x68] ++ (Ad D_4 7 19 (Aq [x0, x89, x90, ud, ud, ud, x0, x95, x95, (D_7 0), (D_7 1), (D_7 2), x100] 8 ([x0, x110, x110, (D_9 0), (D_9 1), (D_9 2), x115, x0, x117, x118, x119, x120, x121, x121, (D_11 0), (D_11 1), x125, (D_10 10), (D_10 11), x0, x129, x130, x131, x132, x133] ++ (Ad D_12 6 7 (Ap [] 101)))))))))).toArray, []⟩) (by kernel_rfl) ?_
                   refine ls_move (x := x133) (by kernel_rfl) (by kernel_rfl) ?_
                   refine ls_andh [(), (), (), ()] (fun K a w => ∃ (D_13 : Nat → Value) (x138 : Value) (h_36 : Heap), a = ⟨(Aq [x0, x35, ud, ud, (D_4 0), x31, x6, ud, ud, x0, x10, x11, x0, x13, x14, x15] 10 ([x0, x27, x28, x29, x1, x31, x31, x33, x31, x35, x0, x37, x37] ++ (Ad D_1 0 8 (Aq [x47] 6 ([x0, x55, x55, (D_2 0), (D_2 1), x59, (D_3 0), (D_3 1), (D_3 2), x6, x64, x64, (D_5 0), (D_5 1), x68] ++ (Ad D_4 7 19 (Aq [x0, x89, x90, ud, ud, ud, x0, x95, x95, (D_7 0), (D_7 1), (D_7 2), x100] 8 (Ap [x0, x110, x110, (D_9 0), (D_9 1), (D_9 2), x115, x0, x117, x118, x119, x120, x121, x121, (D_11 0), (D_11 1), x125, (D_10 10), (D_10 11), x0, x129, x130, x131, x132, x133, x133, (D_13 0), (D_13 1), (D_13 2), x138, (D_12 11), (D_12 12)] 101)))))))).toArray, []⟩ ∧ At w0 w h_36 ∧ K x138 h_36) H (fun hb H => ?_) (fun hb H => ?_) ?_
                   ·refine ls_move (x := x0) (by rw [hb]; kernel_rfl) (by kernel_rfl) ?_
                    refine ls_d (d := some 136) (by kernel_rfl) (by rw [hb]; kernel_rfl) HA_35 (d_call (by kernel_rfl) (by kernel_rfl) H) (fun x136 h_38 w_38 H HA_38 => ?_)
                    refine ls_p (d := some 137) (by kernel_rfl) (by rw [hb]; kernel_rfl) (p_not (by kernel_rfl) H) (fun x137 H => ?_)
                    refine ls_pick_t (x := x137) (by kernel_rfl) (by rw [hb]; kernel_rfl) (by kernel_rfl) ?_
                    refine ls_nil (then_normal ?_)
                    exact ⟨(fun i => ([x0, x136, x137]).getD i ud), x137, h_38, by kernel_rfl, HA_38, H⟩
                   ·refine ls_skip (d := some 135) (by kernel_rfl) (by rw [hb]; kernel_rfl) ?_
                    refine ls_skip (d := some 136) (by kernel_rfl) (by rw [hb]; kernel_rfl) ?_
                    refine ls_skip (d := some 137) (by kernel_rfl) (by rw [hb]; kernel_rfl) ?_
                    refine ls_pick_f (y := (.bool false)) (by kernel_rfl) (by rw [hb]; kernel_rfl) (by kernel_rfl) ?_
                    refine ls_nil (then_normal ?_)
                    exact ⟨(fun i => ([ud, ud, ud]).getD i ud), (.bool false), h_35, by kernel_rfl, HA_35, H⟩
                   ·rintro _ w_36 ⟨D_13, x138, h_36, rfl, HA_36, H⟩
                    refine ls_nil (then_normal ?_)
                    refine fr_eq (b := ⟨(Aq [x0, x35, ud, ud, (D_4 0), x31, x6, ud, ud, x0, x10, x11, x0, x13, x14, x15] 10 ([x0, x27, x28, x29, x1, x31, x31, x33, x31, x35, x0, x37, x37] ++ (Ad D_1 0 8 (Aq [x47] 6 ([x0, x55, x55, (D_2 0), (D_2 1), x59, (D_3 0), (D_3 1), (D_3 2), x6, x64, x64, (D_5 0), (D_5 1), x68] ++ (Ad D_4 7 19 (Aq [x0, x89, x90, ud, ud, ud, x0, x95, x95, (D_7 0), (D_7 1), (D_7 2), x100] 8 (Ap [x0, x110, x110, (D_9 0), (D_9 1), (D_9 2), x115, x0, x117, x118, x119, x120, x121, x121, (D_11 0), (D_11 1), x125, (D_10 10), (D_10 11), x0, x129, x130, x131, x132, x133, x133, (D_13 0), (D_13 1), (D_13 2), x138, (D_12 11), (D_12 12)] 101)))))))).toArray, []⟩) (by kernel_rfl) ?_
                    refine wp_if rfl H (fun H => ?_) (fun H => ?_)
                    ·refine wp_skip ?_
                     refine then_normal ?_
                     refine fr_eq (b := ⟨(Aq [x0, x35, ud, ud, (D_4 0), x31, x6, ud, ud, x0, x10, x11, x0, x13, x14, x15] 10 ([x0, x27, x28, x29, x1, x31, x31, x33, x31, x35, x0, x37, x37] ++ (Ad D_1 0 8 (Aq [x47] 6 ([x0, x55, x55, (D_2 0), (D_2 1), x59, (D_3 0), (D_3 1), (D_3 2), x6, x64, x64, (D_5 0), (D_5 1), x68] ++ (Ad D_4 7 19 (Aq [x0, x89, x90, ud, ud, ud, x0, x95, x95, (D_7 0), (D_7 1), (D_7 2), x100] 8 (Ap [x0, x110, x110, (D_9 0), (D_9 1), (D_9 2), x115, x0, x117, x118, x119, x120, x121, x121, (D_11 0), (D_11 1), x125, (D_10 10), (D_10 11), x0, x129, x130, x131, x132, x133, x133, (D_13 0), (D_13 1), (D_13 2), x138, (D_12 11), (D_12 12)] 101)))))))).toArray, []⟩) (by kernel_rfl) ?_
                     refine wp_block ?_
                     refine lwp_list ?_
                     refine ls_move (x := x0) (by kernel_rfl) (by kernel_rfl) ?_
                     refine ls_d (d := some 140) (by kernel_rfl) (by kernel_rfl) HA_36 (d_call (by kernel_rfl) (by kernel_rfl) H) (fun x140 h_37 w_37 H HA_37 => ?_)
                     refine ls_nil ?_
                     refine block_normal ?_
                     exact ⟨⟨(fun i => ([x0, x129, x130, x131, x132, x133, x133, (D_13 0), (D_13 1), (D_13 2), x138, x0, x140]).getD i ud), h_37, by kernel_rfl, HA_37, H.1⟩, loop_lt HA_37.heap HA_35.heap (by kernel_rfl) (by kernel_rfl) H.2⟩
                    ·refine wp_exit ?_
                     refine then_exit ?_
                     refine then_exit ?_
                     refine block_exit ?_
                     refine then_normal ?_
                     refine fr_eq (b := ⟨(Aq [x0, x35, ud, ud, (D_4 0), x31, x6, ud, ud, x0, x10, x11, x0, x13, x14, x15] 10 ([x0, x27, x28, x29, x1, x31, x31, x33, x31, x35, x0, x37, x37] ++ (Ad D_1 0 8 (Aq [x47] 6 ([x0, x55, x55, (D_2 0), (D_2 1), x59, (D_3 0), (D_3 1), (D_3 2), x6, x64, x64, (D_5 0), (D_5 1), x68] ++ (Ad D_4 7 19 (Aq [x0, x89, x90, ud, ud, ud, x0, x95, x95, (D_7 0), (D_7 1), (D_7 2), x100] 8 (Ap [x0, x110, x110, (D_9 0), (D_9 1), (D_9 2), x115, x0, x117, x118, x119, x120, x121, x121, (D_11 0), (D_11 1), x125, (D_10 10), (D_10 11), x0, x129, x130, x131, x132, x133, x133, (D_13 0), (D_13 1), (D_13 2), x138, (D_12 11), (D_12 12)] 101)))))))).toArray, []⟩) (by kernel_rfl) ?_
                     refine wp_seq (lwp_list ?_)
                     refine ls_assign (x := (.int .i64 0)) (by kernel_rfl) (by kernel_rfl) ?_
                     refine ls_nil (then_normal ?_)
                     refine fr_eq (b := ⟨(Aq [x0, x35, ud, ud, (.int .i64 0), x31, x6, ud, ud, x0, x10, x11, x0, x13, x14, x15] 10 ([x0, x27, x28, x29, x1, x31, x31, x33, x31, x35, x0, x37, x37] ++ (Ad D_1 0 8 (Aq [x47] 6 ([x0, x55, x55, (D_2 0), (D_2 1), x59, (D_3 0), (D_3 1), (D_3 2), x6, x64, x64, (D_5 0), (D_5 1), x68] ++ (Ad D_4 7 19 (Aq [x0, x89, x90, ud, ud, ud, x0, x95, x95, (D_7 0), (D_7 1), (D_7 2), x100] 8 (Ap [x0, x110, x110, (D_9 0), (D_9 1), (D_9 2), x115, x0, x117, x118, x119, x120, x121, x121, (D_11 0), (D_11 1), x125, (D_10 10), (D_10 11), x0, x129, x130, x131, x132, x133, x133, (D_13 0), (D_13 1), (D_13 2), x138, (D_12 11), (D_12 12)] 101)))))))).toArray, []⟩) (by kernel_rfl) ?_
                     refine wp_ret ?_
                     refine then_ret ?_
                     exact end1 (Try.results23) (by kernel_rfl) (by kernel_rfl) HA_36 H _ (.inr rfl)
              ·refine wp_skip ?_
               refine then_normal ?_
               refine fr_eq (b := ⟨(Aq [x0, x35, ud, ud, (D_4 0), x31, x6, ud, ud, x0, x10, x11, x0, x13, x14, x15] 10 ([x0, x27, x28, x29, x1, x31, x31, x33, x31, x35, x0, x37, x37] ++ (Ad D_1 0 8 (Aq [x47] 6 ([x0, x55, x55, (D_2 0), (D_2 1), x59, (D_3 0), (D_3 1), (D_3 2), x6, x64, x64, (D_5 0), (D_5 1), x68] ++ (Ad D_4 7 19 (Aq [x0, x89, x90, ud, ud, ud, x0, x95, x95, (D_7 0), (D_7 1), (D_7 2), x100] 8 (Ap [x0, x110, x110, (D_9 0), (D_9 1), (D_9 2), x115] 126)))))))).toArray, []⟩) (by kernel_rfl) ?_
               refine wp_seq ?_
               refine wp_seq (lwp_list ?_)
               refine ls_move (x := x0) (by kernel_rfl) (by kernel_rfl) ?_
               refine ls_d (d := some 142) (by kernel_rfl) (by kernel_rfl) HA_31 (d_call (by kernel_rfl) (by kernel_rfl) H) (fun x142 h_40 w_40 H HA_40 => ?_)
               refine ls_move (x := x142) (by kernel_rfl) (by kernel_rfl) ?_
               refine ls_andh [(), (), (), ()] (fun K a w => ∃ (D_14 : Nat → Value) (x147 : Value) (h_41 : Heap), a = ⟨(Aq [x0, x35, ud, ud, (D_4 0), x31, x6, ud, ud, x0, x10, x11, x0, x13, x14, x15] 10 ([x0, x27, x28, x29, x1, x31, x31, x33, x31, x35, x0, x37, x37] ++ (Ad D_1 0 8 (Aq [x47] 6 ([x0, x55, x55, (D_2 0), (D_2 1), x59, (D_3 0), (D_3 1), (D_3 2), x6, x64, x64, (D_5 0), (D_5 1), x68] ++ (Ad D_4 7 19 (Aq [x0, x89, x90, ud, ud, ud, x0, x95, x95, (D_7 0), (D_7 1), (D_7 2), x100] 8 (Aq [x0, x110, x110, (D_9 0), (D_9 1), (D_9 2), x115] 25 (Ap [x0, x142, x142, (D_14 0), (D_14 1), (D_14 2), x147] 94))))))))).toArray, []⟩ ∧ At w0 w h_41 ∧ K x147 h_41) H (fun hb_9 H => ?_) (fun hb_9 H => ?_) ?_
               ·refine ls_move (x := x0) (by rw [hb_9]; kernel_rfl) (by kernel_rfl) ?_
                refine ls_move (x := x35) (by rw [hb_9]; kernel_rfl) (by kernel_rfl) ?_
                refine ls_d (d := some 146) (by kernel_rfl) (by rw [hb_9]; kernel_rfl) HA_40 (d_call (by kernel_rfl) (by kernel_rfl) H) (fun x146 h_76 w_76 H HA_76 => ?_)
                refine ls_fr (b := ⟨(Aq [x0, x35, ud, ud, (D_4 0), x31, x6, ud, ud, x0, x10, x11, x0, x13, x14, x15] 10 ([x0, x27, x28, x29, x1, x31, x31, x33, x31, x35, x0, x37, x37] ++ (Ad D_1 0 8 (Aq [x47] 6 ([x0, x55, x55, (D_2 0), (D_2 1), x59, (D_3 0), (D_3 1), (D_3 2), x6, x64, x64, (D_5 0), (D_5 1), x68] ++ (Ad D_4 7 19 (Aq [x0, x89, x90, ud, ud, ud, x0, x95, x95, (D_7 0), (D_7 1), (D_7 2), x100] 8 (Aq [x0, x110, x110, (D_9 0), (D_9 1), (D_9 2), x115] 25 (Ap [x0, x142, x142, x0, x35, x146] 95))))))))).toArray, []⟩) (by kernel_rfl) ?_
                refine ls_pick_t (x := x146) (by kernel_rfl) (by rw [hb_9]; kernel_rfl) (by kernel_rfl) ?_
                refine ls_nil (then_normal ?_)
                exact ⟨(fun i => ([x0, x35, x146]).getD i ud), x146, h_76, by kernel_rfl, HA_76, H⟩
               ·refine ls_skip (d := some 144) (by kernel_rfl) (by rw [hb_9]; kernel_rfl) ?_
                refine ls_skip (d := some 145) (by kernel_rfl) (by rw [hb_9]; kernel_rfl) ?_
                refine ls_skip (d := some 146) (by kernel_rfl) (by rw [hb_9]; kernel_rfl) ?_
                refine ls_fr (b := ⟨(Aq [x0, x35, ud, ud, (D_4 0), x31, x6, ud, ud, x0, x10, x11, x0, x13, x14, x15] 10 ([x0, x27, x28, x29, x1, x31, x31, x33, x31, x35, x0, x37, x37] ++ (Ad D_1 0 8 (Aq [x47] 6 ([x0, x55, x55, (D_2 0), (D_2 1), x59, (D_3 0), (D_3 1), (D_3 2), x6, x64, x64, (D_5 0), (D_5 1), x68] ++ (Ad D_4 7 19 (Aq [x0, x89, x90, ud, ud, ud, x0, x95, x95, (D_7 0), (D_7 1), (D_7 2), x100] 8 (Aq [x0, x110, x110, (D_9 0), (D_9 1), (D_9 2), x115] 25 (Ap [x0, x142, x142] 98))))))))).toArray, []⟩) (by kernel_rfl) ?_
                refine ls_pick_f (y := (.bool false)) (by kernel_rfl) (by rw [hb_9]; kernel_rfl) (by kernel_rfl) ?_
                refine ls_nil (then_normal ?_)
                exact ⟨(fun i => ([ud, ud, ud]).getD i ud), (.bool false), h_40, by kernel_rfl, HA_40, H⟩
               ·rintro _ w_41 ⟨D_14, x147, h_41, rfl, HA_41, H⟩
                refine ls_nil (then_normal ?_)
                refine fr_eq (b := ⟨(Aq [x0, x35, ud, ud, (D_4 0), x31, x6, ud, ud, x0, x10, x11, x0, x13, x14, x15] 10 ([x0, x27, x28, x29, x1, x31, x31, x33, x31, x35, x0, x37, x37] ++ (Ad D_1 0 8 (Aq [x47] 6 ([x0, x55, x55, (D_2 0), (D_2 1), x59, (D_3 0), (D_3 1), (D_3 2), x6, x64, x64, (D_5 0), (D_5 1), x68] ++ (Ad D_4 7 19 (Aq [x0, x89, x90, ud, ud, ud, x0, x95, x95, (D_7 0), (D_7 1), (D_7 2), x100] 8 (Aq [x0, x110, x110, (D_9 0), (D_9 1), (D_9 2), x115] 25 (Ap [x0, x142, x142, (D_14 0), (D_14 1), (D_14 2), x147] 94))))))))).toArray, []⟩) (by kernel_rfl) ?_
                refine wp_if rfl H (fun H => ?_) (fun H => ?_)
                ·refine wp_seq (lwp_list ?_)
                 refine ls_move (x := x0) (by kernel_rfl) (by kernel_rfl) ?_
                 refine ls_move (x := x35) (by kernel_rfl) (by kernel_rfl) ?_
                 refine ls_d (d := some 150) (by kernel_rfl) (by kernel_rfl) HA_41 (d_call (by kernel_rfl) (by kernel_rfl) H) (fun x150 h_42 w_42 H HA_42 => ?_)
                 refine ls_nil (then_normal ?_)
                 refine fr_eq (b := ⟨(Aq [x0, x35, ud, ud, (D_4 0), x31, x6, ud, ud, x0, x10, x11, x0, x13, x14, x15] 10 ([x0, x27, x28, x29, x1, x31, x31, x33, x31, x35, x0, x37, x37] ++ (Ad D_1 0 8 (Aq [x47] 6 ([x0, x55, x55, (D_2 0), (D_2 1), x59, (D_3 0), (D_3 1), (D_3 2), x6, x64, x64, (D_5 0), (D_5 1), x68] ++ (Ad D_4 7 19 (Aq [x0, x89, x90, ud, ud, ud, x0, x95, x95, (D_7 0), (D_7 1), (D_7 2), x100] 8 (Aq [x0, x110, x110, (D_9 0), (D_9 1), (D_9 2), x115] 25 (Ap [x0, x142, x142, (D_14 0), (D_14 1), (D_14 2), x147, x0, x35, x150] 91))))))))).toArray, []⟩) (by kernel_rfl) ?_
                 refine wp_seq ?_
                 refine wp_seq (lwp_list ?_)
                 refine ls_move (x := x0) (by kernel_rfl) (by kernel_rfl) ?_
                 refine ls_d (d := some 152) (by kernel_rfl) (by kernel_rfl) HA_42 (d_call (by kernel_rfl) (by kernel_rfl) H) (fun x152 h_43 w_43 H HA_43 => ?_)
                 refine ls_nil (then_normal ?_)
                 refine fr_eq (b := ⟨(Aq [x0, x35, ud, ud, (D_4 0), x31, x6, ud, ud, x0, x10, x11, x0, x13, x14, x15] 10 ([x0, x27, x28, x29, x1, x31, x31, x33, x31, x35, x0, x37, x37] ++ (Ad D_1 0 8 (Aq [x47] 6 ([x0, x55, x55, (D_2 0), (D_2 1), x59, (D_3 0), (D_3 1), (D_3 2), x6, x64, x64, (D_5 0), (D_5 1), x68] ++ (Ad D_4 7 19 (Aq [x0, x89, x90, ud, ud, ud, x0, x95, x95, (D_7 0), (D_7 1), (D_7 2), x100] 8 (Aq [x0, x110, x110, (D_9 0), (D_9 1), (D_9 2), x115] 25 (Ap [x0, x142, x142, (D_14 0), (D_14 1), (D_14 2), x147, x0, x35, x150, x0, x152] 89))))))))).toArray, []⟩) (by kernel_rfl) ?_
                 refine wp_join (fun a w => ∃ (D_15 : Nat → Value) (h_44 : Heap), a = ⟨(Aq [x0, x35, ud, ud, (D_4 0), x31, x6, ud, ud, x0, x10, x11, x0, x13, x14, x15] 10 ([x0, x27, x28, x29, x1, x31, x31, x33, x31, x35, x0, x37, x37] ++ (Ad D_1 0 8 (Aq [x47] 6 ([x0, x55, x55, (D_2 0), (D_2 1), x59, (D_3 0), (D_3 1), (D_3 2), x6, x64, x64, (D_5 0), (D_5 1), x68] ++ (Ad D_4 7 19 (Aq [x0, x89, x90, ud, ud, ud, x0, x95, x95, (D_7 0), (D_7 1), (D_7 2), x100] 8 (Aq [x0, x110, x110, (D_9 0), (D_9 1), (D_9 2), x115] 25 (Ap [x0, x142, x142, (D_14 0), (D_14 1), (D_14 2), x147, x0, x35, x150, x0, x152, (D_15 0), (D_15 1), (D_15 2)] 86))))))))).toArray, []⟩ ∧ At w0 w h_44 ∧ betonyref18_Disc_Input_j8 R x0 h_44) ?_ ?_
                 ·refine wp_if rfl H (fun H => ?_) (fun H => ?_)
                  ·refine lwp_list ?_
                   refine ls_move (x := x0) (by kernel_rfl) (by kernel_rfl) ?_
                   refine ls_d (d := some 154) (by kernel_rfl) (by kernel_rfl) HA_43 (d_slit (zc := #[.int .u8 0]) Try.underlying30 Try.sizeOf5 (by decide) (.inr ⟨by decide, _, Try.zeroValue5, (by kernel_rfl)⟩) (by kernel_rfl) (by kernel_rfl) H) (fun x154 h_47 w_47 H HA_47 => ?_)
                   refine ls_d (d := some 155) (by kernel_rfl) (by kernel_rfl) HA_47 (d_call (by kernel_rfl) (by kernel_rfl) H) (fun x155 h_48 w_48 H HA_48 => ?_)
                   refine ls_nil ?_
                   exact ⟨(fun i => ([x0, x154, x155]).getD i ud), h_48, by kernel_rfl, HA_48, H⟩
                  ·refine wp_skip ?_
                   exact ⟨(fun i => ([ud, ud, ud]).getD i ud), h_43, by kernel_rfl, HA_43, H⟩
                 ·rintro _ w_44 ⟨D_15, h_44, rfl, HA_44, H⟩
                  unfold betonyref18_Disc_Input_j8 at H
                  refine then_normal ?_
                  refine fr_eq (b := ⟨(Aq [x0, x35, ud, ud, (D_4 0), x31, x6, ud, ud, x0, x10, x11, x0, x13, x14, x15] 10 ([x0, x27, x28, x29, x1, x31, x31, x33, x31, x35, x0, x37, x37] ++ (Ad D_1 0 8 (Aq [x47] 6 ([x0, x55, x55, (D_2 0), (D_2 1), x59, (D_3 0), (D_3 1), (D_3 2), x6, x64, x64, (D_5 0), (D_5 1), x68] ++ (Ad D_4 7 19 (Aq [x0, x89, x90, ud, ud, ud, x0, x95, x95, (D_7 0), (D_7 1), (D_7 2), x100] 8 (Aq [x0, x110, x110, (D_9 0), (D_9 1), (D_9 2), x115] 25 (Ap [x0, x142, x142, (D_14 0), (D_14 1), (D_14 2), x147, x0, x35, x150, x0, x152, (D_15 0), (D_15 1), (D_15 2)] 86))))))))).toArray, []⟩) (by kernel_rfl) ?_
                  refine wp_seq ?_
                  refine wp_seq (lwp_list ?_)
                  refine ls_assign (x := (.int .i64 0)) (by kernel_rfl) (by kernel_rfl) ?_
                  refine ls_nil (then_normal ?_)
                  refine fr_eq (b := ⟨(Aq [x0, x35, ud, ud, (D_4 0), x31, x6, (.int .i64 0), ud, x0, x10, x11, x0, x13, x14, x15] 10 ([x0, x27, x28, x29, x1, x31, x31, x33, x31, x35, x0, x37, x37] ++ (Ad D_1 0 8 (Aq [x47] 6 ([x0, x55, x55, (D_2 0), (D_2 1), x59, (D_3 0), (D_3 1), (D_3 2), x6, x64, x64, (D_5 0), (D_5 1), x68] ++ (Ad D_4 7 19 (Aq [x0, x89, x90, ud, ud, ud, x0, x95, x95, (D_7 0), (D_7 1), (D_7 2), x100] 8 (Aq [x0, x110, x110, (D_9 0), (D_9 1), (D_9 2), x115] 25 (Ap [x0, x142, x142, (D_14 0), (D_14 1), (D_14 2), x147, x0, x35, x150, x0, x152, (D_15 0), (D_15 1), (D_15 2)] 86))))))))).toArray, []⟩) (by kernel_rfl) ?_
                  refine wp_block ?_
                  obtain ⟨I_3, m_3, H0, HB⟩ := H
                  refine wp_loop (fun a w => ∃ (D_16 : Nat → Value) (x7 : Value) (h_45 : Heap), a = ⟨(Aq [x0, x35, ud, ud, (D_4 0), x31, x6, x7, ud, x0, x10, x11, x0, x13, x14, x15] 10 ([x0, x27, x28, x29, x1, x31, x31, x33, x31, x35, x0, x37, x37] ++ (Ad D_1 0 8 (Aq [x47] 6 ([x0, x55, x55, (D_2 0), (D_2 1), x59, (D_3 0), (D_3 1), (D_3 2), x6, x64, x64, (D_5 0), (D_5 1), x68] ++ (Ad D_4 7 19 (Aq [x0, x89, x90, ud, ud, ud, x0, x95, x95, (D_7 0), (D_7 1), (D_7 2), x100] 8 (Aq [x0, x110, x110, (D_9 0), (D_9 1), (D_9 2), x115] 25 ([x0, x142, x142, (D_14 0), (D_14 1), (D_14 2), x147, x0, x35, x150, x0, x152, (D_15 0), (D_15 1), (D_15 2)] ++ (Ad D_16 0 18 (Ap [] 68))))))))))).toArray, []⟩ ∧ At w0 w h_45 ∧ I_3 x7 h_45) (fun a w => m_3 (a.tmps.getD 7 ud) w.heap) ?_ ?_
                  ·exact ⟨(fun i => (Ap [] 18).getD i ud), (.int .i64 0), h_44, by kernel_rfl, HA_44, H0⟩
                  ·rintro _ w_45 ⟨D_16, x7, h_45, rfl, HA_45, HI⟩
                   have H : betonyref18_Disc_Input_l9 R x0 (fun x7' h' => I_3 x7' h' ∧ m_3 x7' h' < m_3 x7 h_45) x7 h_45 := HB x7 h_45 HI
                   clear HB H0 HI
                   unfold betonyref18_Disc_Input_l9 at H
                   refine wp_seq ?_
                   refine wp_seq (lwp_list ?_)
                   refine ls_move (x := x7) (by kernel_rfl) (by kernel_rfl) ?_
                   refine ls_move (x := x0) (by kernel_rfl) (by kernel_rfl) ?_
                   refine ls_p (d := some 158) (by kernel_rfl) (by kernel_rfl) (p_nil (by kernel_rfl) H) (fun x158 H => ?_)
                   refine ls_p (d := some 159) (by kernel_rfl) (by kernel_rfl) (p_off Try.underlying48 rfl (fun w => ⟨_, Try.sizeOf30 w⟩) rfl (by kernel_rfl) H) (fun x159 H => ?_)
                   refine ls_y (d := some 160) (by kernel_rfl) (by kernel_rfl) HA_45 (y_ld Try.isAgg30 (by kernel_rfl) H) (fun x160 H => ?_)
                   refine ls_p (d := some 161) (by kernel_rfl) (by kernel_rfl) (p_len Try.underlying30 (by kernel_rfl) H) (fun x161 H => ?_)
                   refine ls_fr (b := ⟨(Aq [x0, x35, ud, ud, (D_4 0), x31, x6, x7, ud, x0, x10, x11, x0, x13, x14, x15] 10 ([x0, x27, x28, x29, x1, x31, x31, x33, x31, x35, x0, x37, x37] ++ (Ad D_1 0 8 (Aq [x47] 6 ([x0, x55, x55, (D_2 0), (D_2 1), x59, (D_3 0), (D_3 1), (D_3 2), x6, x64, x64, (D_5 0), (D_5 1), x68] ++ (Ad D_4 7 19 (Aq [x0, x89, x90, ud, ud, ud, x0, x95, x95, (D_7 0), (D_7 1), (D_7 2), x100] 8 (Aq [x0, x110, x110, (D_9 0), (D_9 1), (D_9 2), x115] 25 ([x0, x142, x142, (D_14 0), (D_14 1), (D_14 2), x147, x0, x35, x150, x0, x152, (D_15 0), (D_15 1), (D_15 2), x7, x0, x158, x159, x160, x161] ++ (Ad D_16 6 12 (Ap [] 68))))))))))).toArray, []⟩) (by kernel_rfl) ?_
                   refine ls_p (d := some 162) (by kernel_rfl) (by kernel_rfl) (p_sLt (by kernel_rfl) (by kernel_rfl) H) (fun x162 H => ?_)
                   refine ls_nil (then_normal ?_)
                   refine fr_eq (b := ⟨(Aq [x0, x35, ud, ud, (D_4 0), x31, x6, x7, ud, x0, x10, x11, x0, x13, x14, x15] 10 ([x0, x27, x28, x29, x1, x31, x31, x33, x31, x35, x0, x37, x37] ++ (Ad D_1 0 8 (Aq [x47] 6 ([x0, x55, x55, (D_2 0), (D_2 1), x59, (D_3 0), (D_3 1), (D_3 2), x6, x64, x64, (D_5 0), (D_5 1), x68] ++ (Ad D_4 7 19 (Aq [x0, x89, x90, ud, ud, ud, x0, x95, x95, (D_7 0), (D_7 1), (D_7 2), x100] 8 (Aq [x0, x110, x110, (D_9 0), (D_9 1), (D_9 2), x115] 25 ([x0, x142, x142, (D_14 0), (D_14 1), (D_14 2), x147, x0, x35, x150, x0, x152, (D_15 0), (D_15 1), (D_15 2), x7, x0, x158, x159, x160, x161, x162] ++ (Ad D_16 7 11 (Ap [] 68))))))))))).toArray, []⟩) (by kernel_rfl) ?_
                   refine wp_if rfl H (fun H => ?_) (fun H => ?_)
                   ·refine wp_skip ?_
                    refine then_normal ?_
                    refine fr_eq (b := ⟨(Aq [x0, x35, ud, ud, (D_4 0), x31, x6, x7, ud, x0, x10, x11, x0, x13, x14, x15] 10 ([x0, x27, x28, x29, x1, x31, x31, x33, x31, x35, x0, x37, x37] ++ (Ad D_1 0 8 (Aq [x47] 6 ([x0, x55, x55, (D_2 0), (D_2 1), x59, (D_3 0), (D_3 1), (D_3 2), x6, x64, x64, (D_5 0), (D_5 1), x68] ++ (Ad D_4 7 19 (Aq [x0, x89, x90, ud, ud, ud, x0, x95, x95, (D_7 0), (D_7 1), (D_7 2), x100] 8 (Aq [x0, x110, x110, (D_9 0), (D_9 1), (D_9 2), x115] 25 ([x0, x142, x142, (D_14 0), (D_14 1), (D_14 2), x147, x0, x35, x150, x0, x152, (D_15 0), (D_15 1), (D_15 2), x7, x0, x158, x159, x160, x161, x162] ++ (Ad D_16 7 11 (Ap [] 68))))))))))).toArray, []⟩) (by kernel_rfl) ?_
                    refine wp_seq ?_
                    refine wp_block ?_
                    refine lwp_list ?_
                    refine ls_move (x := x0) (by kernel_rfl) (by kernel_rfl) ?_
                    refine ls_move (x := x0) (by kernel_rfl) (by kernel_rfl) ?_
                    refine ls_p (d := some 167) (by kernel_rfl) (by kernel_rfl) (p_nil (by kernel_rfl) H) (fun x167 H => ?_)
                    refine ls_p (d := some 168) (by kernel_rfl) (by kernel_rfl) (p_off Try.underlying48 rfl (fun w => ⟨_, Try.sizeOf30 w⟩) rfl (by kernel_rfl) H) (fun x168 H => ?_)
                    refine ls_y (d := some 169) (by kernel_rfl) (by kernel_rfl) HA_45 (y_ld Try.isAgg30 (by kernel_rfl) H) (fun x169 H => ?_)
                    refine ls_move (x := x7) (by kernel_rfl) (by kernel_rfl) ?_
                    refine ls_fr (b := ⟨(Aq [x0, x35, ud, ud, (D_4 0), x31, x6, x7, ud, x0, x10, x11, x0, x13, x14, x15] 10 ([x0, x27, x28, x29, x1, x31, x31, x33, x31, x35, x0, x37, x37] ++ (Ad D_1 0 8 (Aq [x47] 6 ([x0, x55, x55, (D_2 0), (D_2 1), x59, (D_3 0), (D_3 1), (D_3 2), x6, x64, x64, (D_5 0), (D_5 1), x68] ++ (Ad D_4 7 19 (Aq [x0, x89, x90, ud, ud, ud, x0, x95, x95, (D_7 0), (D_7 1), (D_7 2), x100] 8 (Aq [x0, x110, x110, (D_9 0), (D_9 1), (D_9 2), x115] 25 (Ap [x0, x142, x142, (D_14 0), (D_14 1), (D_14 2), x147, x0, x35, x150, x0, x152, (D_15 0), (D_15 1), (D_15 2), x7, x0, x158, x159, x160, x161, x162, (D_16 7), (D_16 8), x0, x0, x167, x168, x169, x7, (D_16 15), (D_16 16), (D_16 17)] 68))))))))).toArray, []⟩) (by kernel_rfl) ?_
                    refine ls_p (d := some 171) (by kernel_rfl) (by kernel_rfl) (p_ixs Try.underlying30 Try.sizeOf5 (by kernel_rfl) (by kernel_rfl) H) (fun x171 H => ?_)
                    refine ls_y (d := some 172) (by kernel_rfl) (by kernel_rfl) HA_45 (y_ld Try.isAgg5 (by kernel_rfl) H) (fun x172 H => ?_)
                    refine ls_d (d := some 173) (by kernel_rfl) (by kernel_rfl) HA_45 (d_call (by kernel_rfl) (by kernel_rfl) H) (fun x173 h_46 w_46 H HA_46 => ?_)
                    refine ls_nil ?_
                    refine block_normal ?_
                    refine then_normal ?_
                    refine fr_eq (b := ⟨(Aq [x0, x35, ud, ud, (D_4 0), x31, x6, x7, ud, x0, x10, x11, x0, x13, x14, x15] 10 ([x0, x27, x28, x29, x1, x31, x31, x33, x31, x35, x0, x37, x37] ++ (Ad D_1 0 8 (Aq [x47] 6 ([x0, x55, x55, (D_2 0), (D_2 1), x59, (D_3 0), (D_3 1), (D_3 2), x6, x64, x64, (D_5 0), (D_5 1), x68] ++ (Ad D_4 7 19 (Aq [x0, x89, x90, ud, ud, ud, x0, x95, x95, (D_7 0), (D_7 1), (D_7 2), x100] 8 (Aq [x0, x110, x110, (D_9 0), (D_9 1), (D_9 2), x115] 25 (Ap [x0, x142, x142, (D_14 0), (D_14 1), (D_14 2), x147, x0, x35, x150, x0, x152, (D_15 0), (D_15 1), (D_15 2), x7, x0, x158, x159, x160, x161, x162, (D_16 7), (D_16 8), x0, x0, x167, x168, x169, x7, x171, x172, x173] 68))))))))).toArray, []⟩) (by kernel_rfl) ?_
                    refine lwp_list ?_
                    refine ls_move (x := x7) (by kernel_rfl) (by kernel_rfl) ?_
                    refine ls_p (d := some 164) (by kernel_rfl) (by kernel_rfl) (p_add (by kernel_rfl) (by kernel_rfl) H) (fun x164 H => ?_)
                    refine ls_assign (x := x164) (by kernel_rfl) (by kernel_rfl) ?_
                    refine ls_nil ?_
                    exact ⟨⟨(fun i => ([x7, x0, x158, x159, x160, x161, x162, x7, x164, x0, x0, x167, x168, x169, x7, x171, x172, x173]).getD i ud), x164, h_46, by kernel_rfl, HA_46, H.1⟩, loop_lt HA_46.heap HA_45.heap (by kernel_rfl) (by kernel_rfl) H.2⟩
                   ·refine wp_exit ?_
                    refine then_exit ?_
                    refine then_exit ?_
                    refine block_exit ?_
                    refine then_normal ?_
                    refine fr_eq (b := ⟨(Aq [x0, x35, ud, ud, (D_4 0), x31, x6, x7, ud, x0, x10, x11, x0, x13, x14, x15] 10 ([x0, x27, x28, x29, x1, x31, x31, x33, x31, x35, x0, x37, x37] ++ (Ad D_1 0 8 (Aq [x47] 6 ([x0, x55, x55, (D_2 0), (D_2 1), x59, (D_3 0), (D_3 1), (D_3 2), x6, x64, x64, (D_5 0), (D_5 1), x68] ++ (Ad D_4 7 19 (Aq [x0, x89, x90, ud, ud, ud, x0, x95, x95, (D_7 0), (D_7 1), (D_7 2), x100] 8 (Aq [x0, x110, x110, (D_9 0), (D_9 1), (D_9 2), x115] 25 ([x0, x142, x142, (D_14 0), (D_14 1), (D_14 2), x147, x0, x35, x150, x0, x152, (D_15 0), (D_15 1), (D_15 2), x7, x0, x158, x159, x160, x161, x162] ++ (Ad D_16 7 11 (Ap [] 68))))))))))).toArray, []⟩) (by kernel_rfl) ?_
                    refine wp_seq (lwp_list ?_)
                    refine ls_assign (x := (.int .i64 0)) (by kernel_rfl) (by kernel_rfl) ?_
                    refine ls_nil (then_normal ?_)
                    refine fr_eq (b := ⟨(Aq [x0, x35, ud, ud, (.int .i64 0), x31, x6, x7, ud, x0, x10, x11, x0, x13, x14, x15] 10 ([x0, x27, x28, x29, x1, x31, x31, x33, x31, x35, x0, x37, x37] ++ (Ad D_1 0 8 (Aq [x47] 6 ([x0, x55, x55, (D_2 0), (D_2 1), x59, (D_3 0), (D_3 1), (D_3 2), x6, x64, x64, (D_5 0), (D_5 1), x68] ++ (Ad D_4 7 19 (Aq [x0, x89, x90, ud, ud, ud, x0, x95, x95, (D_7 0), (D_7 1), (D_7 2), x100] 8 (Aq [x0, x110, x110, (D_9 0), (D_9 1), (D_9 2), x115] 25 ([x0, x142, x142, (D_14 0), (D_14 1), (D_14 2), x147, x0, x35, x150, x0, x152, (D_15 0), (D_15 1), (D_15 2), x7, x0, x158, x159, x160, x161, x162] ++ (Ad D_16 7 11 (Ap [] 68))))))))))).toArray, []⟩) (by kernel_rfl) ?_
                    refine wp_ret ?_
                    refine then_ret ?_
                    exact end1 (Try.results23) (by kernel_rfl) (by kernel_rfl) HA_45 H _ (.inr rfl)
                ·refine wp_skip ?_
                 refine then_normal ?_
                 refine fr_eq (b := ⟨(Aq [x0, x35, ud, ud, (D_4 0), x31, x6, ud, ud, x0, x10, x11, x0, x13, x14, x15] 10 ([x0, x27, x28, x29, x1, x31, x31, x33, x31, x35, x0, x37, x37] ++ (Ad D_1 0 8 (Aq [x47] 6 ([x0, x55, x55, (D_2 0), (D_2 1), x59, (D_3 0), (D_3 1), (D_3 2), x6, x64, x64, (D_5 0), (D_5 1), x68] ++ (Ad D_4 7 19 (Aq [x0, x89, x90, ud, ud, ud, x0, x95, x95, (D_7 0), (D_7 1), (D_7 2), x100] 8 (Aq [x0, x110, x110, (D_9 0), (D_9 1), (D_9 2), x115] 25 (Ap [x0, x142, x142, (D_14 0), (D_14 1), (D_14 2), x147] 94))))))))).toArray, []⟩) (by kernel_rfl) ?_
                 refine wp_seq ?_
                 refine wp_seq (lwp_list ?_)
                 refine ls_move (x := x0) (by kernel_rfl) (by kernel_rfl) ?_
                 refine ls_move (x := x35) (by kernel_rfl) (by kernel_rfl) ?_
                 refine ls_d (d := some 176) (by kernel_rfl) (by kernel_rfl) HA_41 (d_call (by kernel_rfl) (by kernel_rfl) H) (fun x176 h_49 w_49 H HA_49 => ?_)
                 refine ls_move (x := x176) (by kernel_rfl) (by kernel_rfl) ?_
                 refine ls_orh [(), (), (), ()] (fun K a w => ∃ (D_17 : Nat → Value) (x181 : Value) (h_50 : Heap), a = ⟨(Aq [x0, x35, ud, ud, (D_4 0), x31, x6, ud, ud, x0, x10, x11, x0, x13, x14, x15] 10 ([x0, x27, x28, x29, x1, x31, x31, x33, x31, x35, x0, x37, x37] ++ (Ad D_1 0 8 (Aq [x47] 6 ([x0, x55, x55, (D_2 0), (D_2 1), x59, (D_3 0), (D_3 1), (D_3 2), x6, x64, x64, (D_5 0), (D_5 1), x68] ++ (Ad D_4 7 19 (Aq [x0, x89, x90, ud, ud, ud, x0, x95, x95, (D_7 0), (D_7 1), (D_7 2), x100] 8 (Aq [x0, x110, x110, (D_9 0), (D_9 1), (D_9 2), x115] 25 (Aq [x0, x142, x142, (D_14 0), (D_14 1), (D_14 2), x147] 26 (Ap [x0, x35, x176, x176, (D_17 0), (D_17 1), (D_17 2), x181] 60)))))))))).toArray, []⟩ ∧ At w0 w h_50 ∧ K x181 h_50) H (fun hb_8 H => ?_) (fun hb_8 H => ?_) ?_
                 ·refine ls_move (x := x0) (by rw [hb_8]; kernel_rfl) (by kernel_rfl) ?_
                  refine ls_move (x := x35) (by rw [hb_8]; kernel_rfl) (by kernel_rfl) ?_
                  refine ls_fr (b := ⟨(Aq [x0, x35, ud, ud, (D_4 0), x31, x6, ud, ud, x0, x10, x11, x0, x13, x14, x15] 10 ([x0, x27, x28, x29, x1, x31, x31, x33, x31, x35, x0, x37, x37] ++ (Ad D_1 0 8 (Aq [x47] 6 ([x0, x55, x55, (D_2 0), (D_2 1), x59, (D_3 0), (D_3 1), (D_3 2), x6, x64, x64, (D_5 0), (D_5 1), x68] ++ (Ad D_4 7 19 (Aq [x0, x89, x90, ud, ud, ud, x0, x95, x95, (D_7 0), (D_7 1), (D_7 2), x100] 8 (Aq [x0, x110, x110, (D_9 0), (D_9 1), (D_9 2), x115] 25 (Aq [x0, x142, x142, (D_14 0), (D_14 1), (D_14 2), x147] 26 (Ap [x0, x35, x176, x176, x0, x35] 62)))))))))).toArray, []⟩) (by kernel_rfl) ?_
                  refine ls_d (d := some 180) (by kernel_rfl) (by rw [hb_8]; kernel_rfl) HA_49 (d_call (by kernel_rfl) (by kernel_rfl) H) (fun x180 h_75 w_75 H HA_75 => ?_)
                  refine ls_pick_f (y := x180) (by kernel_rfl) (by rw [hb_8]; kernel_rfl) (by kernel_rfl) ?_
                  refine ls_nil (then_normal ?_)
                  exact ⟨(fun i => ([x0, x35, x180]).getD i ud), x180, h_75, by kernel_rfl, HA_75, H⟩
                 ·refine ls_skip (d := some 178) (by kernel_rfl) (by rw [hb_8]; kernel_rfl) ?_
                  refine ls_skip (d := some 179) (by kernel_rfl) (by rw [hb_8]; kernel_rfl) ?_
                  refine ls_fr (b := ⟨(Aq [x0, x35, ud, ud, (D_4 0), x31, x6, ud, ud, x0, x10, x11, x0, x13, x14, x15] 10 ([x0, x27, x28, x29, x1, x31, x31, x33, x31, x35, x0, x37, x37] ++ (Ad D_1 0 8 (Aq [x47] 6 ([x0, x55, x55, (D_2 0), (D_2 1), x59, (D_3 0), (D_3 1), (D_3 2), x6, x64, x64, (D_5 0), (D_5 1), x68] ++ (Ad D_4 7 19 (Aq [x0, x89, x90, ud, ud, ud, x0, x95, x95, (D_7 0), (D_7 1), (D_7 2), x100] 8 (Aq [x0, x110, x110, (D_9 0), (D_9 1), (D_9 2), x115] 25 (Aq [x0, x142, x142, (D_14 0), (D_14 1), (D_14 2), x147] 26 (Ap [x0, x35, x176, x176] 64)))))))))).toArray, []⟩) (by kernel_rfl) ?_
                  refine ls_skip (d := some 180) (by kernel_rfl) (by rw [hb_8]; kernel_rfl) ?_
                  refine ls_pick_t (x := (.bool true)) (by kernel_rfl) (by rw [hb_8]; kernel_rfl) (by kernel_rfl) ?_
                  refine ls_nil (then_normal ?_)
                  exact ⟨(fun i => ([ud, ud, ud]).getD i ud), (.bool true), h_49, by kernel_rfl, HA_49, H⟩
                 ·rintro _ w_50 ⟨D_17, x181, h_50, rfl, HA_50, H⟩
                  refine ls_nil (then_normal ?_)
                  refine fr_eq (b := ⟨(Aq [x0, x35, ud, ud, (D_4 0), x31, x6, ud, ud, x0, x10, x11, x0, x13, x14, x15] 10 ([x0, x27, x28, x29, x1, x31, x31, x33, x31, x35, x0, x37, x37] ++ (Ad D_1 0 8 (Aq [x47] 6 ([x0, x55, x55, (D_2 0), (D_2 1), x59, (D_3 0), (D_3 1), (D_3 2), x6, x64, x64, (D_5 0), (D_5 1), x68] ++ (Ad D_4 7 19 (Aq [x0, x89, x90, ud, ud, ud, x0, x95, x95, (D_7 0), (D_7 1), (D_7 2), x100] 8 (Aq [x0, x110, x110, (D_9 0), (D_9 1), (D_9 2), x115] 25 (Aq [x0, x142, x142, (D_14 0), (D_14 1), (D_14 2), x147] 26 (Ap [x0, x35, x176, x176, (D_17 0), (D_17 1), (D_17 2), x181] 60)))))))))).toArray, []⟩) (by kernel_rfl) ?_
                  refine wp_if rfl H (fun H => ?_) (fun H => ?_)
                  ·refine wp_seq ?_
                   refine wp_seq (lwp_list ?_)
                   refine ls_assign (x := (.int .i64 0)) (by kernel_rfl) (by kernel_rfl) ?_
                   refine ls_nil (then_normal ?_)
                   refine fr_eq (b := ⟨(Aq [x0, x35, ud, ud, (D_4 0), x31, x6, ud, (.int .i64 0), x0, x10, x11, x0, x13, x14, x15] 10 ([x0, x27, x28, x29, x1, x31, x31, x33, x31, x35, x0, x37, x37] ++ (Ad D_1 0 8 (Aq [x47] 6 ([x0, x55, x55, (D_2 0), (D_2 1), x59, (D_3 0), (D_3 1), (D_3 2), x6, x64, x64, (D_5 0), (D_5 1), x68] ++ (Ad D_4 7 19 (Aq [x0, x89, x90, ud, ud, ud, x0, x95, x95, (D_7 0), (D_7 1), (D_7 2), x100] 8 (Aq [x0, x110, x110, (D_9 0), (D_9 1), (D_9 2), x115] 25 (Aq [x0, x142, x142, (D_14 0), (D_14 1), (D_14 2), x147] 26 (Ap [x0, x35, x176, x176, (D_17 0), (D_17 1), (D_17 2), x181] 60)))))))))).toArray, []⟩) (by kernel_rfl) ?_
                   refine wp_block ?_
                   obtain ⟨I_4, m_4, H0, HB⟩ := H
                   refine wp_loop (fun a w => ∃ (D_18 : Nat → Value) (x8 : Value) (h_51 : Heap), a = ⟨(Aq [x0, x35, ud, ud, (D_4 0), x31, x6, ud, x8, x0, x10, x11, x0, x13, x14, x15] 10 ([x0, x27, x28, x29, x1, x31, x31, x33, x31, x35, x0, x37, x37] ++ (Ad D_1 0 8 (Aq [x47] 6 ([x0, x55, x55, (D_2 0), (D_2 1), x59, (D_3 0), (D_3 1), (D_3 2), x6, x64, x64, (D_5 0), (D_5 1), x68] ++ (Ad D_4 7 19 (Aq [x0, x89, x90, ud, ud, ud, x0, x95, x95, (D_7 0), (D_7 1), (D_7 2), x100] 8 (Aq [x0, x110, x110, (D_9 0), (D_9 1), (D_9 2), x115] 25 (Aq [x0, x142, x142, (D_14 0), (D_14 1), (D_14 2), x147] 26 ([x0, x35, x176, x176, (D_17 0), (D_17 1), (D_17 2), x181] ++ (Ad D_18 0 20 (Ap [] 40)))))))))))).toArray, []⟩ ∧ At w0 w h_51 ∧ I_4 x8 h_51) (fun a w => m_4 (a.tmps.getD 8 ud) w.heap) ?_ ?_
                   ·exact ⟨(fun i => (Ap [] 20).getD i ud), (.int .i64 0), h_50, by kernel_rfl, HA_50, H0⟩
                   ·rintro _ w_51 ⟨D_18, x8, h_51, rfl, HA_51, HI⟩
                    have H : betonyref18_Disc_Input_l10 R x0 x35 (fun x8' h' => I_4 x8' h' ∧ m_4 x8' h' < m_4 x8 h_51) x8 h_51 := HB x8 h_51 HI
                    clear HB H0 HI
                    unfold betonyref18_Disc_Input_l10 at H
                    refine wp_seq ?_
                    refine wp_seq (lwp_list ?_)
                    refine ls_move (x := x0) (by kernel_rfl) (by kernel_rfl) ?_
                    refine ls_p (d := some 183) (by kernel_rfl) (by kernel_rfl) (p_nil (by kernel_rfl) H) (fun x183 H => ?_)
                    refine ls_p (d := some 184) (by kernel_rfl) (by kernel_rfl) (p_off Try.underlying48 rfl (fun w => ⟨_, Try.sizeOf30 w⟩) rfl (by kernel_rfl) H) (fun x184 H => ?_)
                    refine ls_y (d := some 185) (by kernel_rfl) (by kernel_rfl) HA_51 (y_ld Try.isAgg30 (by kernel_rfl) H) (fun x185 H => ?_)
                    refine ls_p (d := some 186) (by kernel_rfl) (by kernel_rfl) (p_len Try.underlying30 (by kernel_rfl) H) (fun x186 H => ?_)
                    refine ls_p (d := some 187) (by kernel_rfl) (by kernel_rfl) (p_sGt (by kernel_rfl) (by kernel_rfl) H) (fun x187 H => ?_)
                    refine ls_fr (b := ⟨(Aq [x0, x35, ud, ud, (D_4 0), x31, x6, ud, x8, x0, x10, x11, x0, x13, x14, x15] 10 ([x0, x27, x28, x29, x1, x31, x31, x33, x31, x35, x0, x37, x37] ++ (Ad D_1 0 8 (Aq [x47] 6 ([x0, x55, x55, (D_2 0), (D_2 1), x59, (D_3 0), (D_3 1), (D_3 2), x6, x64, x64, (D_5 0), (D_5 1), x68] ++ (Ad D_4 7 19 (Aq [x0, x89, x90, ud, ud, ud, x0, x95, x95, (D_7 0), (D_7 1), (D_7 2), x100] 8 (Aq [x0, x110, x110, (D_9 0), (D_9 1), (D_9 2), x115] 25 (Aq [x0, x142, x142, (D_14 0), (D_14 1), (D_14 2), x147] 26 ([x0, x35, x176, x176, (D_17 0), (D_17 1), (D_17 2), x181, x0, x183, x184, x185, x186, x187] ++ (Ad D_18 6 14 (Ap [] 40)))))))))))).toArray, []⟩) (by kernel_rfl) ?_
                    refine ls_move (x := x187) (by kernel_rfl) (by kernel_rfl) ?_
                    refine ls_andh [(), (), (), (), (), (), (), (), ()] (fun K a w => ∃ (D_19 : Nat → Value) (x197 : Value) (h_52 : Heap), a = ⟨(Aq [x0, x35, ud, ud, (D_4 0), x31, x6, ud, x8, x0, x10, x11, x0, x13, x14, x15] 10 ([x0, x27, x28, x29, x1, x31, x31, x33, x31, x35, x0, x37, x37] ++ (Ad D_1 0 8 (Aq [x47] 6 ([x0, x55, x55, (D_2 0), (D_2 1), x59, (D_3 0), (D_3 1), (D_3 2), x6, x64, x64, (D_5 0), (D_5 1), x68] ++ (Ad D_4 7 19 (Aq [x0, x89, x90, ud, ud, ud, x0, x95, x95, (D_7 0), (D_7 1), (D_7 2), x100] 8 (Aq [x0, x110, x110, (D_9 0), (D_9 1), (D_9 2), x115] 25 (Aq [x0, x142, x142, (D_14 0), (D_14 1), (D_14 2), x147] 26 ([x0, x35, x176, x176, (D_17 0), (D_17 1), (D_17 2), x181, x0, x183, x184, x185, x186, x187, x187] ++ (Ad D_19 0 8 ([x197] ++ (Ad D_18 16 4 (Ap [] 40)))))))))))))).toArray, []⟩ ∧ At w0 w h_52 ∧ K x197 h_52) H (fun hb_4 H => ?_) (fun hb_4 H => ?_) ?_
                    ·refine ls_move (x := x8) (by rw [hb_4]; kernel_rfl) (by kernel_rfl) ?_
                     refine ls_p (d := some 190) (by kernel_rfl) (by rw [hb_4]; kernel_rfl) (p_sEq (by kernel_rfl) (by kernel_rfl) H) (fun x190 H => ?_)
                     refine ls_move (x := x190) (by rw [hb_4]; kernel_rfl) (by kernel_rfl) ?_
                     refine ls_orh [(), (), (), (), ()] (fun K a w => ∃ (D_24 : Nat → Value) (x196 : Value) (h_65 : Heap), a = ⟨(Aq [x0, x35, ud, ud, (D_4 0), x31, x6, ud, x8, x0, x10, x11, x0, x13, x14, x15] 10 ([x0, x27, x28, x29, x1, x31, x31, x33, x31, x35, x0, x37, x37] ++ (Ad D_1 0 8 (Aq [x47] 6 ([x0, x55, x55, (D_2 0), (D_2 1), x59, (D_3 0), (D_3 1), (D_3 2), x6, x64, x64, (D_5 0), (D_5 1), x68] ++ (Ad D_4 7 19 (Aq [x0, x89, x90, ud, ud, ud, x0, x95, x95, (D_7 0), (D_7 1), (D_7 2), x100] 8 (Aq [x0, x110, x110, (D_9 0), (D_9 1), (D_9 2), x115] 25 (Aq [x0, x142, x142, (D_14 0), (D_14 1), (D_14 2), x147] 26 ([x0, x35, x176, x176, (D_17 0), (D_17 1), (D_17 2), x181, x0, x183, x184, x185, x186, x187, x187, x8, x190, x190] ++ (Ad D_24 0 4 ([x196] ++ (Ad D_18 15 5 (Ap [] 40)))))))))))))).toArray, []⟩ ∧ At w0 w h_65 ∧ K x196 h_65) H (fun hb_5 H => ?_) (fun hb_5 H => ?_) ?_
                     ·refine ls_move (x := x0) (by rw [hb_5]; kernel_rfl) (by kernel_rfl) ?_
                      refine ls_move (x := x35) (by rw [hb_5]; kernel_rfl) (by kernel_rfl) ?_
                      refine ls_fr (b := ⟨(Aq [x0, x35, ud, ud, (D_4 0), x31, x6, ud, x8, x0, x10, x11, x0, x13, x14, x15] 10 ([x0, x27, x28, x29, x1, x31, x31, x33, x31, x35, x0, x37, x37] ++ (Ad D_1 0 8 (Aq [x47] 6 ([x0, x55, x55, (D_2 0), (D_2 1), x59, (D_3 0), (D_3 1), (D_3 2), x6, x64, x64, (D_5 0), (D_5 1), x68] ++ (Ad D_4 7 19 (Aq [x0, x89, x90, ud, ud, ud, x0, x95, x95, (D_7 0), (D_7 1), (D_7 2), x100] 8 (Aq [x0, x110, x110, (D_9 0), (D_9 1), (D_9 2), x115] 25 (Aq [x0, x142, x142, (D_14 0), (D_14 1), (D_14 2), x147] 26 ([x0, x35, x176, x176, (D_17 0), (D_17 1), (D_17 2), x181, x0, x183, x184, x185, x186, x187, x187, x8, x190, x190, x0, x35] ++ (Ad D_18 12 8 (Ap [] 40)))))))))))).toArray, []⟩) (by kernel_rfl) ?_
                      refine ls_d (d := some 194) (by kernel_rfl) (by rw [hb_5]; kernel_rfl) HA_51 (d_call (by kernel_rfl) (by kernel_rfl) H) (fun x194 h_66 w_66 H HA_66 => ?_)
                      refine ls_p (d := some 195) (by kernel_rfl) (by rw [hb_5]; kernel_rfl) (p_not (by kernel_rfl) H) (fun x195 H => ?_)
                      refine ls_pick_f (y := x195) (by rw [hb_4]; kernel_rfl) (by rw [hb_5]; kernel_rfl) (by kernel_rfl) ?_
                      refine ls_nil (then_normal ?_)
                      exact ⟨(fun i => ([x0, x35, x194, x195]).getD i ud), x195, h_66, by kernel_rfl, HA_66, H⟩
                     ·refine ls_skip (d := some 192) (by kernel_rfl) (by rw [hb_5]; kernel_rfl) ?_
                      refine ls_skip (d := some 193) (by kernel_rfl) (by rw [hb_5]; kernel_rfl) ?_
                      refine ls_fr (b := ⟨(Aq [x0, x35, ud, ud, (D_4 0), x31, x6, ud, x8, x0, x10, x11, x0, x13, x14, x15] 10 ([x0, x27, x28, x29, x1, x31, x31, x33, x31, x35, x0, x37, x37] ++ (Ad D_1 0 8 (Aq [x47] 6 ([x0, x55, x55, (D_2 0), (D_2 1), x59, (D_3 0), (D_3 1), (D_3 2), x6, x64, x64, (D_5 0), (D_5 1), x68] ++ (Ad D_4 7 19 (Aq [x0, x89, x90, ud, ud, ud, x0, x95, x95, (D_7 0), (D_7 1), (D_7 2), x100] 8 (Aq [x0, x110, x110, (D_9 0), (D_9 1), (D_9 2), x115] 25 (Aq [x0, x142, x142, (D_14 0), (D_14 1), (D_14 2), x147] 26 ([x0, x35, x176, x176, (D_17 0), (D_17 1), (D_17 2), x181, x0, x183, x184, x185, x186, x187, x187, x8, x190, x190, ud, ud] ++ (Ad D_18 12 8 (Ap [] 40)))))))))))).toArray, []⟩) (by kernel_rfl) ?_
                      refine ls_skip (d := some 194) (by kernel_rfl) (by rw [hb_5]; kernel_rfl) ?_
                      refine ls_skip (d := some 195) (by kernel_rfl) (by rw [hb_5]; kernel_rfl) ?_
                      refine ls_pick_t (x := (.bool true)) (by rw [hb_4]; kernel_rfl) (by rw [hb_5]; kernel_rfl) (by kernel_rfl) ?_
                      refine ls_nil (then_normal ?_)
                      exact ⟨(fun i => ([ud, ud, ud, ud]).getD i ud), (.bool true), h_51, by kernel_rfl, HA_51, H⟩
                     ·rintro _ w_65 ⟨D_24, x196, h_65, rfl, HA_65, H⟩
                      refine ls_pick_t (x := x196) (by kernel_rfl) (by rw [hb_4]; kernel_rfl) (by kernel_rfl) ?_
                      refine ls_nil (then_normal ?_)
                      exact ⟨(fun i => ([x8, x190, x190] ++ (Ad D_24 0 4 [x196])).getD i ud), x196, h_65, by kernel_rfl, HA_65, H⟩
                    ·refine ls_skip (d := some 189) (by kernel_rfl) (by rw [hb_4]; kernel_rfl) ?_
                     refine ls_skip (d := some 190) (by kernel_rfl) (by rw [hb_4]; kernel_rfl) ?_
                     refine ls_skip (d := some 191) (by kernel_rfl) (by rw [hb_4]; kernel_rfl) ?_
                     refine ls_skip (d := some 192) (by kernel_rfl) (by kernel_rfl) ?_
                     refine ls_skip (d := some 193) (by kernel_rfl) (by kernel_rfl) ?_
                     refine ls_fr (b := ⟨(Aq [x0, x35, ud, ud, (D_4 0), x31, x6, ud, x8, x0, x10, x11, x0, x13, x14, x15] 10 ([x0, x27, x28, x29, x1, x31, x31, x33, x31, x35, x0, x37, x37] ++ (Ad D_1 0 8 (Aq [x47] 6 ([x0, x55, x55, (D_2 0), (D_2 1), x59, (D_3 0), (D_3 1), (D_3 2), x6, x64, x64, (D_5 0), (D_5 1), x68] ++ (Ad D_4 7 19 (Aq [x0, x89, x90, ud, ud, ud, x0, x95, x95, (D_7 0), (D_7 1), (D_7 2), x100] 8 (Aq [x0, x110, x110, (D_9 0), (D_9 1), (D_9 2), x115] 25 (Aq [x0, x142, x142, (D_14 0), (D_14 1), (D_14 2), x147] 26 (Aq [x0, x35, x176, x176, (D_17 0), (D_17 1), (D_17 2), x181, x0, x183, x184, x185, x186, x187, x187] 5 (Ad D_18 12 8 (Ap [] 40)))))))))))).toArray, []⟩) (by kernel_rfl) ?_
                     refine ls_skip (d := some 194) (by kernel_rfl) (by kernel_rfl) ?_
                     refine ls_skip (d := some 195) (by kernel_rfl) (by kernel_rfl) ?_
                     refine ls_skip (d := some 196) (by kernel_rfl) (by rw [hb_4]; kernel_rfl) ?_
                     refine ls_pick_f (y := (.bool false)) (by kernel_rfl) (by rw [hb_4]; kernel_rfl) (by kernel_rfl) ?_
                     refine ls_nil (then_normal ?_)
                     exact ⟨(fun i => (Ap [] 8).getD i ud), (.bool false), h_51, by kernel_rfl, HA_51, H⟩
                    ·rintro _ w_52 ⟨D_19, x197, h_52, rfl, HA_52, H⟩
                     refine ls_nil (then_normal ?_)
                     refine fr_eq (b := ⟨(Aq [x0, x35, ud, ud, (D_4 0), x31, x6, ud, x8, x0, x10, x11, x0, x13, x14, x15] 10 ([x0, x27, x28, x29, x1, x31, x31, x33, x31, x35, x0, x37, x37] ++ (Ad D_1 0 8 (Aq [x47] 6 ([x0, x55, x55, (D_2 0), (D_2 1), x59, (D_3 0), (D_3 1), (D_3 2), x6, x64, x64, (D_5 0), (D_5 1), x68] ++ (Ad D_4 7 19 (Aq [x0, x89, x90, ud, ud, ud, x0, x95, x95, (D_7 0), (D_7 1), (D_7 2), x100] 8 (Aq [x0, x110, x110, (D_9 0), (D_9 1), (D_9 2), x115] 25 (Aq [x0, x142, x142, (D_14 0), (D_14 1), (D_14 2), x147] 26 ([x0, x35, x176, x176, (D_17 0), (D_17 1), (D_17 2), x181, x0, x183, x184, x185, x186, x187, x187] ++ (Ad D_19 0 8 ([x197] ++ (Ad D_18 16 4 (Ap [] 40)))))))))))))).toArray, []⟩) (by kernel_rfl) ?_
                     refine wp_if rfl H (fun H => ?_) (fun H => ?_)
                     ·refine wp_skip ?_
                      refine then_normal ?_
                      refine fr_eq (b := ⟨(Aq [x0, x35, ud, ud, (D_4 0), x31, x6, ud, x8, x0, x10, x11, x0, x13, x14, x15] 10 ([x0, x27, x28, x29, x1, x31, x31, x33, x31, x35, x0, x37, x37] ++ (Ad D_1 0 8 (Aq [x47] 6 ([x0, x55, x55, (D_2 0), (D_2 1), x59, (D_3 0), (D_3 1), (D_3 2), x6, x64, x64, (D_5 0), (D_5 1), x68] ++ (Ad D_4 7 19 (Aq [x0, x89, x90, ud, ud, ud, x0, x95, x95, (D_7 0), (D_7 1), (D_7 2), x100] 8 (Aq [x0, x110, x110, (D_9 0), (D_9 1), (D_9 2), x115] 25 (Aq [x0, x142, x142, (D_14 0), (D_14 1), (D_14 2), x147] 26 ([x0, x35, x176, x176, (D_17 0), (D_17 1), (D_17 2), x181, x0, x183, x184, x185, x186, x187, x187] ++ (Ad D_19 0 8 ([x197] ++ (Ad D_18 16 4 (Ap [] 40)))))))))))))).toArray, []⟩) (by kernel_rfl) ?_
                      refine wp_seq ?_
                      refine wp_block ?_
                      refine lwp_list ?_
                      refine ls_move (x := x0) (by kernel_rfl) (by kernel_rfl) ?_
                      refine ls_d (d := some 201) (by kernel_rfl) (by kernel_rfl) HA_52 (d_call (by kernel_rfl) (by kernel_rfl) H) (fun x201 h_53 w_53 H HA_53 => ?_)
                      refine ls_nil ?_
                      refine block_normal ?_
                      refine then_normal ?_
                      refine fr_eq (b := ⟨(Aq [x0, x35, ud, ud, (D_4 0), x31, x6, ud, x8, x0, x10, x11, x0, x13, x14, x15] 10 ([x0, x27, x28, x29, x1, x31, x31, x33, x31, x35, x0, x37, x37] ++ (Ad D_1 0 8 (Aq [x47] 6 ([x0, x55, x55, (D_2 0), (D_2 1), x59, (D_3 0), (D_3 1), (D_3 2), x6, x64, x64, (D_5 0), (D_5 1), x68] ++ (Ad D_4 7 19 (Aq [x0, x89, x90, ud, ud, ud, x0, x95, x95, (D_7 0), (D_7 1), (D_7 2), x100] 8 (Aq [x0, x110, x110, (D_9 0), (D_9 1), (D_9 2), x115] 25 (Aq [x0, x142, x142, (D_14 0), (D_14 1), (D_14 2), x147] 26 ([x0, x35, x176, x176, (D_17 0), (D_17 1), (D_17 2), x181, x0, x183, x184, x185, x186, x187, x187] ++ (Ad D_19 0 8 (Ap [x197, (D_18 16), (D_18 17), x0, x201] 40)))))))))))).toArray, []⟩) (by kernel_rfl) ?_
                      refine lwp_list ?_
                      refine ls_move (x := x8) (by kernel_rfl) (by kernel_rfl) ?_
                      refine ls_p (d := some 199) (by kernel_rfl) (by kernel_rfl) (p_add (by kernel_rfl) (by kernel_rfl) H) (fun x199 H => ?_)
                      refine ls_assign (x := x199) (by kernel_rfl) (by kernel_rfl) ?_
                      refine ls_nil ?_
                      exact ⟨⟨(fun i => ([x0, x183, x184, x185, x186, x187, x187] ++ (Ad D_19 0 8 [x197, x8, x199, x0, x201])).getD i ud), x199, h_53, by kernel_rfl, HA_53, H.1⟩, loop_lt HA_53.heap HA_51.heap (by kernel_rfl) (by kernel_rfl) H.2⟩
                     ·refine wp_exit ?_
                      refine then_exit ?_
                      refine then_exit ?_
                      refine block_exit ?_
                      refine then_normal ?_
                      refine fr_eq (b := ⟨(Aq [x0, x35, ud, ud, (D_4 0), x31, x6, ud, x8, x0, x10, x11, x0, x13, x14, x15] 10 ([x0, x27, x28, x29, x1, x31, x31, x33, x31, x35, x0, x37, x37] ++ (Ad D_1 0 8 (Aq [x47] 6 ([x0, x55, x55, (D_2 0), (D_2 1), x59, (D_3 0), (D_3 1), (D_3 2), x6, x64, x64, (D_5 0), (D_5 1), x68] ++ (Ad D_4 7 19 (Aq [x0, x89, x90, ud, ud, ud, x0, x95, x95, (D_7 0), (D_7 1), (D_7 2), x100] 8 (Aq [x0, x110, x110, (D_9 0), (D_9 1), (D_9 2), x115] 25 (Aq [x0, x142, x142, (D_14 0), (D_14 1), (D_14 2), x147] 26 ([x0, x35, x176, x176, (D_17 0), (D_17 1), (D_17 2), x181, x0, x183, x184, x185, x186, x187, x187] ++ (Ad D_19 0 8 ([x197] ++ (Ad D_18 16 4 (Ap [] 40)))))))))))))).toArray, []⟩) (by kernel_rfl) ?_
                      refine wp_seq ?_
                      refine wp_seq (lwp_list ?_)
                      refine ls_move (x := x0) (by kernel_rfl) (by kernel_rfl) ?_
                      refine ls_d (d := some 203) (by kernel_rfl) (by kernel_rfl) HA_52 (d_call (by kernel_rfl) (by kernel_rfl) H) (fun x203 h_54 w_54 H HA_54 => ?_)
                      refine ls_p (d := some 204) (by kernel_rfl) (by kernel_rfl) (p_not (by kernel_rfl) H) (fun x204 H => ?_)
                      refine ls_nil (then_normal ?_)
                      refine fr_eq (b := ⟨(Aq [x0, x35, ud, ud, (D_4 0), x31, x6, ud, x8, x0, x10, x11, x0, x13, x14, x15] 10 ([x0, x27, x28, x29, x1, x31, x31, x33, x31, x35, x0, x37, x37] ++ (Ad D_1 0 8 (Aq [x47] 6 ([x0, x55, x55, (D_2 0), (D_2 1), x59, (D_3 0), (D_3 1), (D_3 2), x6, x64, x64, (D_5 0), (D_5 1), x68] ++ (Ad D_4 7 19 (Aq [x0, x89, x90, ud, ud, ud, x0, x95, x95, (D_7 0), (D_7 1), (D_7 2), x100] 8 (Aq [x0, x110, x110, (D_9 0), (D_9 1), (D_9 2), x115] 25 (Aq [x0, x142, x142, (D_14 0), (D_14 1), (D_14 2), x147] 26 ([x0, x35, x176, x176, (D_17 0), (D_17 1), (D_17 2), x181, x0, x183, x184, x185, x186, x187, x187] ++ (Ad D_19 0 8 ([x197] ++ (Ad D_18 16 4 (Ap [x0, x203, x204] 37)))))))))))))).toArray, []⟩) (by kernel_rfl) ?_
                      refine wp_join (fun a w => ∃ (D_20 : Nat → Value) (h_55 : Heap), a = ⟨(Aq [x0, x35, ud, ud, (D_4 0), x31, x6, ud, x8, x0, x10, x11, x0, x13, x14, x15] 10 ([x0, x27, x28, x29, x1, x31, x31, x33, x31, x35, x0, x37, x37] ++ (Ad D_1 0 8 (Aq [x47] 6 ([x0, x55, x55, (D_2 0), (D_2 1), x59, (D_3 0), (D_3 1), (D_3 2), x6, x64, x64, (D_5 0), (D_5 1), x68] ++ (Ad D_4 7 19 (Aq [x0, x89, x90, ud, ud, ud, x0, x95, x95, (D_7 0), (D_7 1), (D_7 2), x100] 8 (Aq [x0, x110, x110, (D_9 0), (D_9 1), (D_9 2), x115] 25 (Aq [x0, x142, x142, (D_14 0), (D_14 1), (D_14 2), x147] 26 ([x0, x35, x176, x176, (D_17 0), (D_17 1), (D_17 2), x181, x0, x183, x184, x185, x186, x187, x187] ++ (Ad D_19 0 8 ([x197] ++ (Ad D_18 16 4 (Ap [x0, x203, x204, (D_20 0), (D_20 1), (D_20 2)] 34)))))))))))))).toArray, []⟩ ∧ At w0 w h_55 ∧ betonyref18_Disc_Input_j11 R x0 x35 h_55) ?_ ?_
                      ·refine wp_if rfl H (fun H => ?_) (fun H => ?_)
                       ·refine lwp_list ?_
                        refine ls_move (x := x0) (by kernel_rfl) (by kernel_rfl) ?_
                        refine ls_move (x := x35) (by kernel_rfl) (by kernel_rfl) ?_
                        refine ls_d (d := some 207) (by kernel_rfl) (by kernel_rfl) HA_54 (d_call (by kernel_rfl) (by kernel_rfl) H) (fun x207 h_64 w_64 H HA_64 => ?_)
                        refine ls_nil ?_
                        exact ⟨(fun i => ([x0, x35, x207]).getD i ud), h_64, by kernel_rfl, HA_64, H⟩
                       ·refine wp_skip ?_
                        exact ⟨(fun i => ([ud, ud, ud]).getD i ud), h_54, by kernel_rfl, HA_54, H⟩
                      ·rintro _ w_55 ⟨D_20, h_55, rfl, HA_55, H⟩
                       unfold betonyref18_Disc_Input_j11 at H
                       refine then_normal ?_
                       refine fr_eq (b := ⟨(Aq [x0, x35, ud, ud, (D_4 0), x31, x6, ud, x8, x0, x10, x11, x0, x13, x14, x15] 10 ([x0, x27, x28, x29, x1, x31, x31, x33, x31, x35, x0, x37, x37] ++ (Ad D_1 0 8 (Aq [x47] 6 ([x0, x55, x55, (D_2 0), (D_2 1), x59, (D_3 0), (D_3 1), (D_3 2), x6, x64, x64, (D_5 0), (D_5 1), x68] ++ (Ad D_4 7 19 (Aq [x0, x89, x90, ud, ud, ud, x0, x95, x95, (D_7 0), (D_7 1), (D_7 2), x100] 8 (Aq [x0, x110, x110, (D_9 0), (D_9 1), (D_9 2), x115] 25 (Aq [x0, x142, x142, (D_14 0), (D_14 1), (D_14 2), x147] 26 ([x0, x35, x176, x176, (D_17 0), (D_17 1), (D_17 2), x181, x0, x183, x184, x185, x186, x187, x187] ++ (Ad D_19 0 8 ([x197] ++ (Ad D_18 16 4 (Ap [x0, x203, x204, (D_20 0), (D_20 1), (D_20 2)] 34)))))))))))))).toArray, []⟩) (by kernel_rfl) ?_
                       refine wp_seq ?_
                       refine wp_seq (lwp_list ?_)
                       refine ls_move (x := x0) (by kernel_rfl) (by kernel_rfl) ?_
                       refine ls_move (x := x35) (by kernel_rfl) (by kernel_rfl) ?_
                       refine ls_d (d := some 210) (by kernel_rfl) (by kernel_rfl) HA_55 (d_call (by kernel_rfl) (by kernel_rfl) H) (fun x210 h_56 w_56 H HA_56 => ?_)
                       refine ls_p (d := some 211) (by kernel_rfl) (by kernel_rfl) (p_not (by kernel_rfl) H) (fun x211 H => ?_)
                       refine ls_move (x := x211) (by kernel_rfl) (by kernel_rfl) ?_
                       refine ls_andh [(), (), ()] (fun K a w => ∃ (D_21 : Nat → Value) (x215 : Value) (h_57 : Heap), a = ⟨(Aq [x0, x35, ud, ud, (D_4 0), x31, x6, ud, x8, x0, x10, x11, x0, x13, x14, x15] 10 ([x0, x27, x28, x29, x1, x31, x31, x33, x31, x35, x0, x37, x37] ++ (Ad D_1 0 8 (Aq [x47] 6 ([x0, x55, x55, (D_2 0), (D_2 1), x59, (D_3 0), (D_3 1), (D_3 2), x6, x64, x64, (D_5 0), (D_5 1), x68] ++ (Ad D_4 7 19 (Aq [x0, x89, x90, ud, ud, ud, x0, x95, x95, (D_7 0), (D_7 1), (D_7 2), x100] 8 (Aq [x0, x110, x110, (D_9 0), (D_9 1), (D_9 2), x115] 25 (Aq [x0, x142, x142, (D_14 0), (D_14 1), (D_14 2), x147] 26 ([x0, x35, x176, x176, (D_17 0), (D_17 1), (D_17 2), x181, x0, x183, x184, x185, x186, x187, x187] ++ (Ad D_19 0 8 ([x197] ++ (Ad D_18 16 4 (Ap [x0, x203, x204, (D_20 0), (D_20 1), (D_20 2), x0, x35, x210, x211, x211, (D_21 0), (D_21 1), x215] 26)))))))))))))).toArray, []⟩ ∧ At w0 w h_57 ∧ K x215 h_57) H (fun hb_3 H => ?_) (fun hb_3 H => ?_) ?_
                       ·refine ls_move (x := x0) (by rw [hb_3]; kernel_rfl) (by kernel_rfl) ?_
                        refine ls_fr (b := ⟨(Aq [x0, x35, ud, ud, (D_4 0), x31, x6, ud, x8, x0, x10, x11, x0, x13, x14, x15] 10 ([x0, x27, x28, x29, x1, x31, x31, x33, x31, x35, x0, x37, x37] ++ (Ad D_1 0 8 (Aq [x47] 6 ([x0, x55, x55, (D_2 0), (D_2 1), x59, (D_3 0), (D_3 1), (D_3 2), x6, x64, x64, (D_5 0), (D_5 1), x68] ++ (Ad D_4 7 19 (Aq [x0, x89, x90, ud, ud, ud, x0, x95, x95, (D_7 0), (D_7 1), (D_7 2), x100] 8 (Aq [x0, x110, x110, (D_9 0), (D_9 1), (D_9 2), x115] 25 (Aq [x0, x142, x142, (D_14 0), (D_14 1), (D_14 2), x147] 26 ([x0, x35, x176, x176, (D_17 0), (D_17 1), (D_17 2), x181, x0, x183, x184, x185, x186, x187, x187] ++ (Ad D_19 0 8 ([x197] ++ (Ad D_18 16 4 (Ap [x0, x203, x204, (D_20 0), (D_20 1), (D_20 2), x0, x35, x210, x211, x211, x0] 28)))))))))))))).toArray, []⟩) (by kernel_rfl) ?_
                        refine ls_d (d := some 214) (by kernel_rfl) (by rw [hb_3]; kernel_rfl) HA_56 (d_call (by kernel_rfl) (by kernel_rfl) H) (fun x214 h_63 w_63 H HA_63 => ?_)
                        refine ls_pick_t (x := x214) (by kernel_rfl) (by rw [hb_3]; kernel_rfl) (by kernel_rfl) ?_
                        refine ls_nil (then_normal ?_)
                        exact ⟨(fun i => ([x0, x214]).getD i ud), x214, h_63, by kernel_rfl, HA_63, H⟩
                       ·refine ls_skip (d := some 213) (by kernel_rfl) (by rw [hb_3]; kernel_rfl) ?_
                        refine ls_fr (b := ⟨(Aq [x0, x35, ud, ud, (D_4 0), x31, x6, ud, x8, x0, x10, x11, x0, x13, x14, x15] 10 ([x0, x27, x28, x29, x1, x31, x31, x33, x31, x35, x0, x37, x37] ++ (Ad D_1 0 8 (Aq [x47] 6 ([x0, x55, x55, (D_2 0), (D_2 1), x59, (D_3 0), (D_3 1), (D_3 2), x6, x64, x64, (D_5 0), (D_5 1), x68] ++ (Ad D_4 7 19 (Aq [x0, x89, x90, ud, ud, ud, x0, x95, x95, (D_7 0), (D_7 1), (D_7 2), x100] 8 (Aq [x0, x110, x110, (D_9 0), (D_9 1), (D_9 2), x115] 25 (Aq [x0, x142, x142, (D_14 0), (D_14 1), (D_14 2), x147] 26 ([x0, x35, x176, x176, (D_17 0), (D_17 1), (D_17 2), x181, x0, x183, x184, x185, x186, x187, x187] ++ (Ad D_19 0 8 ([x197] ++ (Ad D_18 16 4 (Ap [x0, x203, x204, (D_20 0), (D_20 1), (D_20 2), x0, x35, x210, x211, x211] 29)))))))))))))).toArray, []⟩) (by kernel_rfl) ?_
                        refine ls_skip (d := some 214) (by kernel_rfl) (by rw [hb_3]; kernel_rfl) ?_
                        refine ls_pick_f (y := (.bool false)) (by kernel_rfl) (by rw [hb_3]; kernel_rfl) (by kernel_rfl) ?_
                        refine ls_nil (then_normal ?_)
                        exact ⟨(fun i => ([ud, ud]).getD i ud), (.bool false), h_56, by kernel_rfl, HA_56, H⟩
                       ·rintro _ w_57 ⟨D_21, x215, h_57, rfl, HA_57, H⟩
                        refine ls_move (x := x215) (by kernel_rfl) (by kernel_rfl) ?_
                        refine ls_andh [(), (), ()] (fun K a w => ∃ (D_22 : Nat → Value) (x219 : Value) (h_58 : Heap), a = ⟨(Aq [x0, x35, ud, ud, (D_4 0), x31, x6, ud, x8, x0, x10, x11, x0, x13, x14, x15] 10 ([x0, x27, x28, x29, x1, x31, x31, x33, x31, x35, x0, x37, x37] ++ (Ad D_1 0 8 (Aq [x47] 6 ([x0, x55, x55, (D_2 0), (D_2 1), x59, (D_3 0), (D_3 1), (D_3 2), x6, x64, x64, (D_5 0), (D_5 1), x68] ++ (Ad D_4 7 19 (Aq [x0, x89, x90, ud, ud, ud, x0, x95, x95, (D_7 0), (D_7 1), (D_7 2), x100] 8 (Aq [x0, x110, x110, (D_9 0), (D_9 1), (D_9 2), x115] 25 (Aq [x0, x142, x142, (D_14 0), (D_14 1), (D_14 2), x147] 26 ([x0, x35, x176, x176, (D_17 0), (D_17 1), (D_17 2), x181, x0, x183, x184, x185, x186, x187, x187] ++ (Ad D_19 0 8 ([x197] ++ (Ad D_18 16 4 (Ap [x0, x203, x204, (D_20 0), (D_20 1), (D_20 2), x0, x35, x210, x211, x211, (D_21 0), (D_21 1), x215, x215, (D_22 0), (D_22 1), x219] 22)))))))))))))).toArray, []⟩ ∧ At w0 w h_58 ∧ K x219 h_58) H (fun hb_2 H => ?_) (fun hb_2 H => ?_) ?_
                        ·refine ls_move (x := x0) (by rw [hb_2]; kernel_rfl) (by kernel_rfl) ?_
                         refine ls_d (d := some 218) (by kernel_rfl) (by rw [hb_2]; kernel_rfl) HA_57 (d_call (by kernel_rfl) (by kernel_rfl) H) (fun x218 h_62 w_62 H HA_62 => ?_)
                         refine ls_pick_t (x := x218) (by kernel_rfl) (by rw [hb_2]; kernel_rfl) (by kernel_rfl) ?_
                         refine ls_nil (then_normal ?_)
                         exact ⟨(fun i => ([x0, x218]).getD i ud), x218, h_62, by kernel_rfl, HA_62, H⟩
                        ·refine ls_skip (d := some 217) (by kernel_rfl) (by rw [hb_2]; kernel_rfl) ?_
                         refine ls_skip (d := some 218) (by kernel_rfl) (by rw [hb_2]; kernel_rfl) ?_
                         refine ls_pick_f (y := (.bool false)) (by kernel_rfl) (by rw [hb_2]; kernel_rfl) (by kernel_rfl) ?_
                         refine ls_nil (then_normal ?_)
                         exact ⟨(fun i => ([ud, ud]).getD i ud), (.bool false), h_57, by kernel_rfl, HA_57, H⟩
                        ·rintro _ w_58 ⟨D_22, x219, h_58, rfl, HA_58, H⟩
                         refine ls_nil (then_normal ?_)
                         refine fr_eq (b := ⟨(Aq [x0, x35, ud, ud, (D_4 0), x31, x6, ud, x8, x0, x10, x11, x0, x13, x14, x15] 10 ([x0, x27, x28, x29, x1, x31, x31, x33, x31, x35, x0, x37, x37] ++ (Ad D_1 0 8 (Aq [x47] 6 ([x0, x55, x55, (D_2 0), (D_2 1), x59, (D_3 0), (D_3 1), (D_3 2), x6, x64, x64, (D_5 0), (D_5 1), x68] ++ (Ad D_4 7 19 (Aq [x0, x89, x90, ud, ud, ud, x0, x95, x95, (D_7 0), (D_7 1), (D_7 2), x100] 8 (Aq [x0, x110, x110, (D_9 0), (D_9 1), (D_9 2), x115] 25 (Aq [x0, x142, x142, (D_14 0), (D_14 1), (D_14 2), x147] 26 ([x0, x35, x176, x176, (D_17 0), (D_17 1), (D_17 2), x181, x0, x183, x184, x185, x186, x187, x187] ++ (Ad D_19 0 8 ([x197] ++ (Ad D_18 16 4 (Ap [x0, x203, x204, (D_20 0), (D_20 1), (D_20 2), x0, x35, x210, x211, x211, (D_21 0), (D_21 1), x215, x215, (D_22 0), (D_22 1), x219] 22)))))))))))))).toArray, []⟩) (by kernel_rfl) ?_
                         refine wp_join (fun a w => ∃ (D_23 : Nat → Value) (h_59 : Heap), a = ⟨(Aq [x0, x35, ud, ud, (D_4 0), x31, x6, ud, x8, x0, x10, x11, x0, x13, x14, x15] 10 ([x0, x27, x28, x29, x1, x31, x31, x33, x31, x35, x0, x37, x37] ++ (Ad D_1 0 8 (Aq [x47] 6 ([x0, x55, x55, (D_2 0), (D_2 1), x59, (D_3 0), (D_3 1), (D_3 2), x6, x64, x64, (D_5 0), (D_5 1), x68] ++ (Ad D_4 7 19 (Aq [x0, x89, x90, ud, ud, ud, x0, x95, x95, (D_7 0), (D_7 1), (D_7 2), x100] 8 (Aq [x0, x110, x110, (D_9 0), (D_9 1), (D_9 2), x115] 25 (Aq [x0, x142, x142, (D_14 0), (D_14 1), (D_14 2), x147] 26 ([x0, x35, x176, x176, (D_17 0), (D_17 1), (D_17 2), x181, x0, x183, x184, x185, x186, x187, x187] ++ (Ad D_19 0 8 ([x197] ++ (Ad D_18 16 4 (Ap [x0, x203, x204, (D_20 0), (D_20 1), (D_20 2), x0, x35, x210, x211, x211, (D_21 0), (D_21 1), x215, x215, (D_22 0), (D_22 1), x219, (D_23 0), (D_23 1), (D_23 2)] 19)))))))))))))).toArray, []⟩ ∧ At w0 w h_59 ∧ betonyref18_Disc_Input_j12 R h_59) ?_ ?_
                         ·refine wp_if rfl H (fun H => ?_) (fun H => ?_)
                          ·refine lwp_list ?_
                           refine ls_move (x := x0) (by kernel_rfl) (by kernel_rfl) ?_
                           refine ls_d (d := some 221) (by kernel_rfl) (by kernel_rfl) HA_58 (d_slit (zc := #[.int .u8 0]) Try.underlying30 Try.sizeOf5 (by decide) (.inr ⟨by decide, _, Try.zeroValue5, (by kernel_rfl)⟩) (by kernel_rfl) (by kernel_rfl) H) (fun x221 h_60 w_60 H HA_60 => ?_)
                           refine ls_d (d := some 222) (by kernel_rfl) (by kernel_rfl) HA_60 (d_call (by kernel_rfl) (by kernel_rfl) H) (fun x222 h_61 w_61 H HA_61 => ?_)
                           refine ls_nil ?_
                           exact ⟨(fun i => ([x0, x221, x222]).getD i ud), h_61, by kernel_rfl, HA_61, H⟩
                          ·refine wp_skip ?_
                           exact ⟨(fun i => ([ud, ud, ud]).getD i ud), h_58, by kernel_rfl, HA_58, H⟩
                         ·rintro _ w_59 ⟨D_23, h_59, rfl, HA_59, H⟩
                          unfold betonyref18_Disc_Input_j12 at H
                          refine then_normal ?_
                          refine fr_eq (b := ⟨(Aq [x0, x35, ud, ud, (D_4 0), x31, x6, ud, x8, x0, x10, x11, x0, x13, x14, x15] 10 ([x0, x27, x28, x29, x1, x31, x31, x33, x31, x35, x0, x37, x37] ++ (Ad D_1 0 8 (Aq [x47] 6 ([x0, x55, x55, (D_2 0), (D_2 1), x59, (D_3 0), (D_3 1), (D_3 2), x6, x64, x64, (D_5 0), (D_5 1), x68] ++ (Ad D_4 7 19 (Aq [x0, x89, x90, ud, ud, ud, x0, x95, x95, (D_7 0), (D_7 1), (D_7 2), x100] 8 (Aq [x0, x110, x110, (D_9 0), (D_9 1), (D_9 2), x115] 25 (Aq [x0, x142, x142, (D_14 0), (D_14 1), (D_14 2), x147] 26 ([x0, x35, x176, x176, (D_17 0), (D_17 1), (D_17 2), x181, x0, x183, x184, x185, x186, x187, x187] ++ (Ad D_19 0 8 ([x197] ++ (Ad D_18 16 4 (Ap [x0, x203, x204, (D_20 0), (D_20 1), (D_20 2), x0, x35, x210, x211, x211, (D_21 0), (D_21 1), x215, x215, (D_22 0), (D_22 1), x219, (D_23 0), (D_23 1), (D_23 2)] 19)))))))))))))).toArray, []⟩) (by kernel_rfl) ?_
                          refine wp_seq (lwp_list ?_)
                          refine ls_assign (x := (.int .i64 0)) (by kernel_rfl) (by kernel_rfl) ?_
                          refine ls_nil (then_normal ?_)
                          refine fr_eq (b := ⟨(Aq [x0, x35, ud, ud, (.int .i64 0), x31, x6, ud, x8, x0, x10, x11, x0, x13, x14, x15] 10 ([x0, x27, x28, x29, x1, x31, x31, x33, x31, x35, x0, x37, x37] ++ (Ad D_1 0 8 (Aq [x47] 6 ([x0, x55, x55, (D_2 0), (D_2 1), x59, (D_3 0), (D_3 1), (D_3 2), x6, x64, x64, (D_5 0), (D_5 1), x68] ++ (Ad D_4 7 19 (Aq [x0, x89, x90, ud, ud, ud, x0, x95, x95, (D_7 0), (D_7 1), (D_7 2), x100] 8 (Aq [x0, x110, x110, (D_9 0), (D_9 1), (D_9 2), x115] 25 (Aq [x0, x142, x142, (D_14 0), (D_14 1), (D_14 2), x147] 26 ([x0, x35, x176, x176, (D_17 0), (D_17 1), (D_17 2), x181, x0, x183, x184, x185, x186, x187, x187] ++ (Ad D_19 0 8 ([x197] ++ (Ad D_18 16 4 (Ap [x0, x203, x204, (D_20 0), (D_20 1), (D_20 2), x0, x35, x210, x211, x211, (D_21 0), (D_21 1), x215, x215, (D_22 0), (D_22 1), x219, (D_23 0), (D_23 1), (D_23 2)] 19)))))))))))))).toArray, []⟩) (by kernel_rfl) ?_
                          refine wp_ret ?_
                          refine then_ret ?_
                          exact end1 (Try.results23) (by kernel_rfl) (by kernel_rfl) HA_59 H _ (.inr rfl)
                  ·refine wp_skip ?_
                   refine then_normal ?_
                   refine fr_eq (b := ⟨(Aq [x0, x35, ud, ud, (D_4 0), x31, x6, ud, ud, x0, x10, x11, x0, x13, x14, x15] 10 ([x0, x27, x28, x29, x1, x31, x31, x33, x31, x35, x0, x37, x37] ++ (Ad D_1 0 8 (Aq [x47] 6 ([x0, x55, x55, (D_2 0), (D_2 1), x59, (D_3 0), (D_3 1), (D_3 2), x6, x64, x64, (D_5 0), (D_5 1), x68] ++ (Ad D_4 7 19 (Aq [x0, x89, x90, ud, ud, ud, x0, x95, x95, (D_7 0), (D_7 1), (D_7 2), x100] 8 (Aq [x0, x110, x110, (D_9 0), (D_9 1), (D_9 2), x115] 25 (Aq [x0, x142, x142, (D_14 0), (D_14 1), (D_14 2), x147] 26 (Ap [x0, x35, x176, x176, (D_17 0), (D_17 1), (D_17 2), x181] 60)))))))))).toArray, []⟩) (by kernel_rfl) ?_
                   refine wp_seq ?_
                   refine wp_seq (lwp_list ?_)
                   refine ls_move (x := x0) (by kernel_rfl) (by kernel_rfl) ?_
                   refine ls_move (x := x35) (by kernel_rfl) (by kernel_rfl) ?_
                   refine ls_d (d := some 225) (by kernel_rfl) (by kernel_rfl) HA_50 (d_call (by kernel_rfl) (by kernel_rfl) H) (fun x225 h_67 w_67 H HA_67 => ?_)
                   refine ls_nil (then_normal ?_)
                   refine fr_eq (b := ⟨(Aq [x0, x35, ud, ud, (D_4 0), x31, x6, ud, ud, x0, x10, x11, x0, x13, x14, x15] 10 ([x0, x27, x28, x29, x1, x31, x31, x33, x31, x35, x0, x37, x37] ++ (Ad D_1 0 8 (Aq [x47] 6 ([x0, x55, x55, (D_2 0), (D_2 1), x59, (D_3 0), (D_3 1), (D_3 2), x6, x64, x64, (D_5 0), (D_5 1), x68] ++ (Ad D_4 7 19 (Aq [x0, x89, x90, ud, ud, ud, x0, x95, x95, (D_7 0), (D_7 1), (D_7 2), x100] 8 (Aq [x0, x110, x110, (D_9 0), (D_9 1), (D_9 2), x115] 25 (Aq [x0, x142, x142, (D_14 0), (D_14 1), (D_14 2), x147] 26 (Aq [x0, x35, x176, x176, (D_17 0), (D_17 1), (D_17 2), x181] 41 (Ap [x0, x35, x225] 16))))))))))).toArray, []⟩) (by kernel_rfl) ?_
                   refine wp_if rfl H (fun H => ?_) (fun H => ?_)
                   ·refine wp_seq (lwp_list ?_)
                    refine ls_move (x := x0) (by kernel_rfl) (by kernel_rfl) ?_
                    refine ls_d (d := some 227) (by kernel_rfl) (by kernel_rfl) HA_67 (d_call (by kernel_rfl) (by kernel_rfl) H) (fun x227 h_68 w_68 H HA_68 => ?_)
                    refine ls_nil (then_normal ?_)
                    refine fr_eq (b := ⟨(Aq [x0, x35, ud, ud, (D_4 0), x31, x6, ud, ud, x0, x10, x11, x0, x13, x14, x15] 10 ([x0, x27, x28, x29, x1, x31, x31, x33, x31, x35, x0, x37, x37] ++ (Ad D_1 0 8 (Aq [x47] 6 ([x0, x55, x55, (D_2 0), (D_2 1), x59, (D_3 0), (D_3 1), (D_3 2), x6, x64, x64, (D_5 0), (D_5 1), x68] ++ (Ad D_4 7 19 (Aq [x0, x89, x90, ud, ud, ud, x0, x95, x95, (D_7 0), (D_7 1), (D_7 2), x100] 8 (Aq [x0, x110, x110, (D_9 0), (D_9 1), (D_9 2), x115] 25 (Aq [x0, x142, x142, (D_14 0), (D_14 1), (D_14 2), x147] 26 (Aq [x0, x35, x176, x176, (D_17 0), (D_17 1), (D_17 2), x181] 41 (Ap [x0, x35, x225, x0, x227] 14))))))))))).toArray, []⟩) (by kernel_rfl) ?_
                    refine wp_seq (lwp_list ?_)
                    refine ls_assign (x := (.int .i64 0)) (by kernel_rfl) (by kernel_rfl) ?_
                    refine ls_nil (then_normal ?_)
                    refine fr_eq (b := ⟨(Aq [x0, x35, ud, ud, (.int .i64 0), x31, x6, ud, ud, x0, x10, x11, x0, x13, x14, x15] 10 ([x0, x27, x28, x29, x1, x31, x31, x33, x31, x35, x0, x37, x37] ++ (Ad D_1 0 8 (Aq [x47] 6 ([x0, x55, x55, (D_2 0), (D_2 1), x59, (D_3 0), (D_3 1), (D_3 2), x6, x64, x64, (D_5 0), (D_5 1), x68] ++ (Ad D_4 7 19 (Aq [x0, x89, x90, ud, ud, ud, x0, x95, x95, (D_7 0), (D_7 1), (D_7 2), x100] 8 (Aq [x0, x110, x110, (D_9 0), (D_9 1), (D_9 2), x115] 25 (Aq [x0, x142, x142, (D_14 0), (D_14 1), (D_14 2), x147] 26 (Aq [x0, x35, x176, x176, (D_17 0), (D_17 1), (D_17 2), x181] 41 (Ap [x0, x35, x225, x0, x227] 14))))))))))).toArray, []⟩) (by kernel_rfl) ?_
                    refine wp_ret ?_
                    refine then_ret ?_
                    exact end1 (Try.results23) (by kernel_rfl) (by kernel_rfl) HA_68 H _ (.inr rfl)
                   ·refine wp_skip ?_
                    refine then_normal ?_
                    refine fr_eq (b := ⟨(Aq [x0, x35, ud, ud, (D_4 0), x31, x6, ud, ud, x0, x10, x11, x0, x13, x14, x15] 10 ([x0, x27, x28, x29, x1, x31, x31, x33, x31, x35, x0, x37, x37] ++ (Ad D_1 0 8 (Aq [x47] 6 ([x0, x55, x55, (D_2 0), (D_2 1), x59, (D_3 0), (D_3 1), (D_3 2), x6, x64, x64, (D_5 0), (D_5 1), x68] ++ (Ad D_4 7 19 (Aq [x0, x89, x90, ud, ud, ud, x0, x95, x95, (D_7 0), (D_7 1), (D_7 2), x100] 8 (Aq [x0, x110, x110, (D_9 0), (D_9 1), (D_9 2), x115] 25 (Aq [x0, x142, x142, (D_14 0), (D_14 1), (D_14 2), x147] 26 (Aq [x0, x35, x176, x176, (D_17 0), (D_17 1), (D_17 2), x181] 41 (Ap [x0, x35, x225] 16))))))))))).toArray, []⟩) (by kernel_rfl) ?_
                    refine wp_seq ?_
                    refine wp_seq (lwp_list ?_)
                    refine ls_move (x := x0) (by kernel_rfl) (by kernel_rfl) ?_
                    refine ls_move (x := x35) (by kernel_rfl) (by kernel_rfl) ?_
                    refine ls_d (d := some 230) (by kernel_rfl) (by kernel_rfl) HA_67 (d_call (by kernel_rfl) (by kernel_rfl) H) (fun x230 h_69 w_69 H HA_69 => ?_)
                    refine ls_move (x := x230) (by kernel_rfl) (by kernel_rfl) ?_
                    refine ls_andh [(), (), (), (), (), (), (), ()] (fun K a w => ∃ (D_25 : Nat → Value) (x239 : Value) (h_70 : Heap), a = ⟨(Aq [x0, x35, ud, ud, (D_4 0), x31, x6, ud, ud, x0, x10, x11, x0, x13, x14, x15] 10 ([x0, x27, x28, x29, x1, x31, x31, x33, x31, x35, x0, x37, x37] ++ (Ad D_1 0 8 (Aq [x47] 6 ([x0, x55, x55, (D_2 0), (D_2 1), x59, (D_3 0), (D_3 1), (D_3 2), x6, x64, x64, (D_5 0), (D_5 1), x68] ++ (Ad D_4 7 19 (Aq [x0, x89, x90, ud, ud, ud, x0, x95, x95, (D_7 0), (D_7 1), (D_7 2), x100] 8 (Aq [x0, x110, x110, (D_9 0), (D_9 1), (D_9 2), x115] 25 (Aq [x0, x142, x142, (D_14 0), (D_14 1), (D_14 2), x147] 26 (Aq [x0, x35, x176, x176, (D_17 0), (D_17 1), (D_17 2), x181] 41 ([x0, x35, x225, ud, ud, x0, x35, x230, x230] ++ (Ad D_25 0 7 [x239, ud, ud])))))))))))).toArray, []⟩ ∧ At w0 w h_70 ∧ K x239 h_70) H (fun hb_6 H => ?_) (fun hb_6 H => ?_) ?_
                    ·refine ls_move (x := x35) (by rw [hb_6]; kernel_rfl) (by kernel_rfl) ?_
                     refine ls_p (d := some 233) (by kernel_rfl) (by rw [hb_6]; kernel_rfl) (p_sEq (by kernel_rfl) (by kernel_rfl) H) (fun x233 H => ?_)
                     refine ls_fr (b := ⟨(Aq [x0, x35, ud, ud, (D_4 0), x31, x6, ud, ud, x0, x10, x11, x0, x13, x14, x15] 10 ([x0, x27, x28, x29, x1, x31, x31, x33, x31, x35, x0, x37, x37] ++ (Ad D_1 0 8 (Aq [x47] 6 ([x0, x55, x55, (D_2 0), (D_2 1), x59, (D_3 0), (D_3 1), (D_3 2), x6, x64, x64, (D_5 0), (D_5 1), x68] ++ (Ad D_4 7 19 (Aq [x0, x89, x90, ud, ud, ud, x0, x95, x95, (D_7 0), (D_7 1), (D_7 2), x100] 8 (Aq [x0, x110, x110, (D_9 0), (D_9 1), (D_9 2), x115] 25 (Aq [x0, x142, x142, (D_14 0), (D_14 1), (D_14 2), x147] 26 (Aq [x0, x35, x176, x176, (D_17 0), (D_17 1), (D_17 2), x181] 41 (Ap [x0, x35, x225, ud, ud, x0, x35, x230, x230, x35, x233] 8))))))))))).toArray, []⟩) (by kernel_rfl) ?_
                     refine ls_move (x := x233) (by rw [hb_6]; kernel_rfl) (by kernel_rfl) ?_
                     refine ls_orh [(), (), (), ()] (fun K a w => ∃ (D_27 : Nat → Value) (x238 : Value) (h_73 : Heap), a = ⟨(Aq [x0, x35, ud, ud, (D_4 0), x31, x6, ud, ud, x0, x10, x11, x0, x13, x14, x15] 10 ([x0, x27, x28, x29, x1, x31, x31, x33, x31, x35, x0, x37, x37] ++ (Ad D_1 0 8 (Aq [x47] 6 ([x0, x55, x55, (D_2 0), (D_2 1), x59, (D_3 0), (D_3 1), (D_3 2), x6, x64, x64, (D_5 0), (D_5 1), x68] ++ (Ad D_4 7 19 (Aq [x0, x89, x90, ud, ud, ud, x0, x95, x95, (D_7 0), (D_7 1), (D_7 2), x100] 8 (Aq [x0, x110, x110, (D_9 0), (D_9 1), (D_9 2), x115] 25 (Aq [x0, x142, x142, (D_14 0), (D_14 1), (D_14 2), x147] 26 (Aq [x0, x35, x176, x176, (D_17 0), (D_17 1), (D_17 2), x181] 41 [x0, x35, x225, ud, ud, x0, x35, x230, x230, x35, x233, x233, (D_27 0), (D_27 1), (D_27 2), x238, ud, ud, ud])))))))))).toArray, []⟩ ∧ At w0 w h_73 ∧ K x238 h_73) H (fun hb_7 H => ?_) (fun hb_7 H => ?_) ?_
                     ·refine ls_move (x := x0) (by rw [hb_7]; kernel_rfl) (by kernel_rfl) ?_
                      refine ls_move (x := x35) (by rw [hb_7]; kernel_rfl) (by kernel_rfl) ?_
                      refine ls_d (d := some 237) (by kernel_rfl) (by rw [hb_7]; kernel_rfl) HA_69 (d_call (by kernel_rfl) (by kernel_rfl) H) (fun x237 h_74 w_74 H HA_74 => ?_)
                      refine ls_pick_f (y := x237) (by rw [hb_6]; kernel_rfl) (by rw [hb_7]; kernel_rfl) (by kernel_rfl) ?_
                      refine ls_nil (then_normal ?_)
                      exact ⟨(fun i => ([x0, x35, x237]).getD i ud), x237, h_74, by kernel_rfl, HA_74, H⟩
                     ·refine ls_skip (d := some 235) (by kernel_rfl) (by rw [hb_7]; kernel_rfl) ?_
                      refine ls_skip (d := some 236) (by kernel_rfl) (by rw [hb_7]; kernel_rfl) ?_
                      refine ls_skip (d := some 237) (by kernel_rfl) (by rw [hb_7]; kernel_rfl) ?_
                      refine ls_pick_t (x := (.bool true)) (by rw [hb_6]; kernel_rfl) (by rw [hb_7]; kernel_rfl) (by kernel_rfl) ?_
                      refine ls_nil (then_normal ?_)
                      exact ⟨(fun i => ([ud, ud, ud]).getD i ud), (.bool true), h_69, by kernel_rfl, HA_69, H⟩
                     ·rintro _ w_73 ⟨D_27, x238, h_73, rfl, HA_73, H⟩
                      refine ls_pick_t (x := x238) (by kernel_rfl) (by rw [hb_6]; kernel_rfl) (by kernel_rfl) ?_
                      refine ls_nil (then_normal ?_)
                      exact ⟨(fun i => ([x35, x233, x233, (D_27 0), (D_27 1), (D_27 2), x238]).getD i ud), x238, h_73, by kernel_rfl, HA_73, H⟩
                    ·refine ls_skip (d := some 232) (by kernel_rfl) (by rw [hb_6]; kernel_rfl) ?_
                     refine ls_skip (d := some 233) (by kernel_rfl) (by rw [hb_6]; kernel_rfl) ?_
                     refine ls_fr (b := ⟨(Aq [x0, x35, ud, ud, (D_4 0), x31, x6, ud, ud, x0, x10, x11, x0, x13, x14, x15] 10 ([x0, x27, x28, x29, x1, x31, x31, x33, x31, x35, x0, x37, x37] ++ (Ad D_1 0 8 (Aq [x47] 6 ([x0, x55, x55, (D_2 0), (D_2 1), x59, (D_3 0), (D_3 1), (D_3 2), x6, x64, x64, (D_5 0), (D_5 1), x68] ++ (Ad D_4 7 19 (Aq [x0, x89, x90, ud, ud, ud, x0, x95, x95, (D_7 0), (D_7 1), (D_7 2), x100] 8 (Aq [x0, x110, x110, (D_9 0), (D_9 1), (D_9 2), x115] 25 (Aq [x0, x142, x142, (D_14 0), (D_14 1), (D_14 2), x147] 26 (Aq [x0, x35, x176, x176, (D_17 0), (D_17 1), (D_17 2), x181] 41 (Ap [x0, x35, x225, ud, ud, x0, x35, x230, x230] 10))))))))))).toArray, []⟩) (by kernel_rfl) ?_
                     refine ls_skip (d := some 234) (by kernel_rfl) (by rw [hb_6]; kernel_rfl) ?_
                     refine ls_skip (d := some 235) (by kernel_rfl) (by kernel_rfl) ?_
                     refine ls_skip (d := some 236) (by kernel_rfl) (by kernel_rfl) ?_
                     refine ls_skip (d := some 237) (by kernel_rfl) (by kernel_rfl) ?_
                     refine ls_skip (d := some 238) (by kernel_rfl) (by rw [hb_6]; kernel_rfl) ?_
                     refine ls_pick_f (y := (.bool false)) (by kernel_rfl) (by rw [hb_6]; kernel_rfl) (by kernel_rfl) ?_
                     refine ls_nil (then_normal ?_)
                     exact ⟨(fun i => (Ap [] 7).getD i ud), (.bool false), h_69, by kernel_rfl, HA_69, H⟩
                    ·rintro _ w_70 ⟨D_25, x239, h_70, rfl, HA_70, H⟩
                     refine ls_nil (then_normal ?_)
                     refine fr_eq (b := ⟨(Aq [x0, x35, ud, ud, (D_4 0), x31, x6, ud, ud, x0, x10, x11, x0, x13, x14, x15] 10 ([x0, x27, x28, x29, x1, x31, x31, x33, x31, x35, x0, x37, x37] ++ (Ad D_1 0 8 (Aq [x47] 6 ([x0, x55, x55, (D_2 0), (D_2 1), x59, (D_3 0), (D_3 1), (D_3 2), x6, x64, x64, (D_5 0), (D_5 1), x68] ++ (Ad D_4 7 19 (Aq [x0, x89, x90, ud, ud, ud, x0, x95, x95, (D_7 0), (D_7 1), (D_7 2), x100] 8 (Aq [x0, x110, x110, (D_9 0), (D_9 1), (D_9 2), x115] 25 (Aq [x0, x142, x142, (D_14 0), (D_14 1), (D_14 2), x147] 26 (Aq [x0, x35, x176, x176, (D_17 0), (D_17 1), (D_17 2), x181] 41 ([x0, x35, x225, ud, ud, x0, x35, x230, x230] ++ (Ad D_25 0 7 [x239, ud, ud])))))))))))).toArray, []⟩) (by kernel_rfl) ?_
                     refine wp_join (fun a w => ∃ (D_26 : Nat → Value) (h_71 : Heap), a = ⟨(Aq [x0, x35, ud, ud, (D_4 0), x31, x6, ud, ud, x0, x10, x11, x0, x13, x14, x15] 10 ([x0, x27, x28, x29, x1, x31, x31, x33, x31, x35, x0, x37, x37] ++ (Ad D_1 0 8 (Aq [x47] 6 ([x0, x55, x55, (D_2 0), (D_2 1), x59, (D_3 0), (D_3 1), (D_3 2), x6, x64, x64, (D_5 0), (D_5 1), x68] ++ (Ad D_4 7 19 (Aq [x0, x89, x90, ud, ud, ud, x0, x95, x95, (D_7 0), (D_7 1), (D_7 2), x100] 8 (Aq [x0, x110, x110, (D_9 0), (D_9 1), (D_9 2), x115] 25 (Aq [x0, x142, x142, (D_14 0), (D_14 1), (D_14 2), x147] 26 (Aq [x0, x35, x176, x176, (D_17 0), (D_17 1), (D_17 2), x181] 41 ([x0, x35, x225, ud, ud, x0, x35, x230, x230] ++ (Ad D_25 0 7 [x239, (D_26 0), (D_26 1)])))))))))))).toArray, []⟩ ∧ At w0 w h_71 ∧ betonyref18_Disc_Input_j13 R h_71) ?_ ?_
                     ·refine wp_if rfl H (fun H => ?_) (fun H => ?_)
                      ·refine lwp_list ?_
                       refine ls_move (x := x0) (by kernel_rfl) (by kernel_rfl) ?_
                       refine ls_d (d := some 241) (by kernel_rfl) (by kernel_rfl) HA_70 (d_call (by kernel_rfl) (by kernel_rfl) H) (fun x241 h_72 w_72 H HA_72 => ?_)
                       refine ls_nil ?_
                       exact ⟨(fun i => ([x0, x241]).getD i ud), h_72, by kernel_rfl, HA_72, H⟩
                      ·refine wp_skip ?_
                       exact ⟨(fun i => ([ud, ud]).getD i ud), h_70, by kernel_rfl, HA_70, H⟩
                     ·rintro _ w_71 ⟨D_26, h_71, rfl, HA_71, H⟩
                      unfold betonyref18_Disc_Input_j13 at H
                      refine then_normal ?_
                      refine fr_eq (b := ⟨(Aq [x0, x35, ud, ud, (D_4 0), x31, x6, ud, ud, x0, x10, x11, x0, x13, x14, x15] 10 ([x0, x27, x28, x29, x1, x31, x31, x33, x31, x35, x0, x37, x37] ++ (Ad D_1 0 8 (Aq [x47] 6 ([x0, x55, x55, (D_2 0), (D_2 1), x59, (D_3 0), (D_3 1), (D_3 2), x6, x64, x64, (D_5 0), (D_5 1), x68] ++ (Ad D_4 7 19 (Aq [x0, x89, x90, ud, ud, ud, x0, x95, x95, (D_7 0), (D_7 1), (D_7 2), x100] 8 (Aq [x0, x110, x110, (D_9 0), (D_9 1), (D_9 2), x115] 25 (Aq [x0, x142, x142, (D_14 0), (D_14 1), (D_14 2), x147] 26 (Aq [x0, x35, x176, x176, (D_17 0), (D_17 1), (D_17 2), x181] 41 ([x0, x35, x225, ud, ud, x0, x35, x230, x230] ++ (Ad D_25 0 7 [x239, (D_26 0), (D_26 1)])))))))))))).toArray, []⟩) (by kernel_rfl) ?_
                      refine wp_seq (lwp_list ?_)
                      refine ls_assign (x := (.int .i64 0)) (by kernel_rfl) (by kernel_rfl) ?_
                      refine ls_nil (then_normal ?_)
                      refine fr_eq (b := ⟨(Aq [x0, x35, ud, ud, (.int .i64 0), x31, x6, ud, ud, x0, x10, x11, x0, x13, x14, x15] 10 ([x0, x27, x28, x29, x1, x31, x31, x33, x31, x35, x0, x37, x37] ++ (Ad D_1 0 8 (Aq [x47] 6 ([x0, x55, x55, (D_2 0), (D_2 1), x59, (D_3 0), (D_3 1), (D_3 2), x6, x64, x64, (D_5 0), (D_5 1), x68] ++ (Ad D_4 7 19 (Aq [x0, x89, x90, ud, ud, ud, x0, x95, x95, (D_7 0), (D_7 1), (D_7 2), x100] 8 (Aq [x0, x110, x110, (D_9 0), (D_9 1), (D_9 2), x115] 25 (Aq [x0, x142, x142, (D_14 0), (D_14 1), (D_14 2), x147] 26 (Aq [x0, x35, x176, x176, (D_17 0), (D_17 1), (D_17 2), x181] 41 ([x0, x35, x225, ud, ud, x0, x35, x230, x230] ++ (Ad D_25 0 7 [x239, (D_26 0), (D_26 1)])))))))))))).toArray, []⟩) (by kernel_rfl) ?_
                      refine wp_ret ?_
                      exact end1 (Try.results23) (by kernel_rfl) (by kernel_rfl) HA_71 H _ (.inr rfl)

end Go.Proofs.Ytlcklnbgknhhkaa

end

section
/- The document's discipline: what comes in. -/
set_option linter.unusedSimpArgs false
set_option linter.unusedVariables false
namespace Go.Proofs.Ytlcklnbgknhhkaa
open Go Go.HW

def okB (d : D) : Prop := (∀ c ∈ d.ln, 0 ≤ c ∧ c < 256) ∧ (∀ c ∈ d.ra, 0 ≤ c ∧ c < 256) ∧ ∀ l ∈ d.ls, ∀ c ∈ l, (0 : Int) ≤ c ∧ c < 256
theorem okB_same {d d' : D} (h : okB d) (e1 : d'.ln = d.ln) (e2 : d'.ra = d.ra) (e3 : d'.ls = d.ls) : okB d' := by unfold okB; rw [e1, e2, e3]; exact h
theorem okB_emit {d : D} (l : List Int) (h : okB d) : okB (d.emit l) := okB_same h rfl rfl rfl
theorem okB_show {d : D} (c : Int) (h : okB d) : okB (d.show c) := okB_same h (show_ln d c) (show_ra d c) (show_ls d c)
theorem okB_bell {d : D} (h : okB d) : okB d.bell := by unfold D.bell; split; exact okB_emit _ h; exact h
theorem okB_put1 {d : D} (c : Int) (h : okB d) : okB (d.put1 c) := by
  unfold D.put1; split
  · exact okB_show c (okB_emit _ h)
  · exact okB_show c h
theorem okB_put {d : D} {c : Int} (hc : 0 ≤ c ∧ c < 256) (h : okB d) : okB (d.put c).1 := by
  have ap : ∀ l : List Int, (∀ c ∈ l, 0 ≤ c ∧ c < 256) → ∀ x ∈ l ++ [c], 0 ≤ x ∧ x < 256 := fun l hl x hx => by
    rw [List.mem_append, List.mem_singleton] at hx
    rcases hx with hx | rfl
    · exact hl x hx
    · exact hc
  unfold D.put; split
  · exact okB_put1 c ⟨h.1, ap _ h.2.1, h.2.2⟩
  · split
    · exact okB_put1 c ⟨ap _ h.1, h.2.1, h.2.2⟩
    · exact okB_bell h
theorem okB_back {d : D} (h : okB d) : okB d.back := by
  have hc : okB d.cutLast := ⟨fun c hc => h.1 c ((List.dropLast_sublist _).subset hc), h.2.1, h.2.2⟩
  unfold D.back; split
  · exact hc
  · exact okB_emit _ hc
theorem okB_backW (p : Int → Bool) : ∀ (n : Nat) (d : D), okB d → okB (D.backW p n d)
  | 0, d, h => h
  | n + 1, d, h => by
    rw [D.backW]; split
    · exact okB_backW p n _ (okB_back h)
    · exact h
theorem okB_backWhile {d : D} (p : Int → Bool) (h : okB d) : okB (d.backWhile p) := okB_backW p _ d h
theorem okB_ready {d : D} (h : okB d) : okB d.ready := by
  unfold D.ready; split
  · have := okB_bell h
    exact ⟨fun c hc => by simp at hc, this.2.1, this.2.2⟩
  · refine ⟨fun c hc => by simp at hc, h.2.1, fun l hl => ?_⟩
    simp only [List.mem_append, List.mem_singleton] at hl
    rcases hl with hl | rfl
    · exact h.2.2 l hl
    · exact h.1
theorem okB_flush {d : D} : okB d.flush := ⟨fun c hc => by simp [D.flush] at hc, fun c hc => by simp [D.flush] at hc, fun c hc => by simp [D.flush] at hc⟩
theorem okB_showAll (l : List Int) : ∀ d : D, okB d → okB (d.showAll l) := by
  induction l with
  | nil => exact fun d h => h
  | cons x l ih => exact fun d h => ih _ (okB_show x h)
theorem okB_extended {d : D} {c : Int} (h : okB d) : okB (d.extended c).1 := by
  unfold D.extended; repeat' split
  · exact h
  · exact okB_emit _ (okB_same h rfl rfl rfl)
  · exact okB_same h rfl rfl rfl
  · exact okB_backWhile _ (okB_backWhile _ h)
  · unfold D.reprint; split
    · exact okB_showAll _ _ (okB_emit _ (okB_show c h))
    · exact okB_showAll _ _ (okB_show c h)
  · exact h
theorem okB_edit {d : D} {c : Int} (hc : 0 ≤ c ∧ c < 256) (h : okB d) : okB (d.edit c) := by
  unfold D.edit; split
  · exact okB_extended h
  · split
    · exact okB_back h
    · split
      · have h1 : okB (if 0 < d.ln.length then d.back else d) := by split; exact okB_back h; exact h
        simp only
        generalize (if 0 < d.ln.length then d.back else d) = d1 at h1 ⊢
        split
        · exact okB_show c h1
        · exact h1
      · split
        · unfold D.kill
          simp only
          have h1 := okB_backWhile (fun _ => true) h
          have h2 : okB (if (!(d.backWhile fun _ => true).loc 4) = true then (d.backWhile fun _ => true).show c else (d.backWhile fun _ => true)) := by split; exact okB_show c h1; exact h1
          generalize (if (!(d.backWhile fun _ => true).loc 4) = true then (d.backWhile fun _ => true).show c else (d.backWhile fun _ => true)) = d2 at h2 ⊢
          split
          · exact okB_emit _ h2
          · exact h2
        · split
          · exact okB_ready h
          · split
            · split
              · exact okB_ready (okB_put hc h)
              · exact okB_put hc h
            · exact okB_put hc h
theorem okB_input {d : D} {c : Int} (hc : 0 ≤ c ∧ c < 256) (h : okB d) : okB (d.input c).1 := by
  have m := map_rng d.t hc
  have hf : ∀ c, okB (D.flow { d with ec := [] } c).1 := fun c => by
    unfold D.flow; repeat' split
    all_goals exact okB_same h rfl rfl rfl
  unfold D.input D.byte; split
  · refine okB_put ?_ (okB_same h rfl rfl rfl)
    split <;> omega
  · split
    · exact okB_same h rfl rfl rfl
    · split
      · exact hf _
      · split
        · unfold D.sig; split
          · exact okB_same (d := d.flush) okB_flush rfl rfl rfl
          · exact okB_show _ (hf _)
        · split
          · exact okB_edit m (hf _)
          · exact okB_put m (hf _)
theorem edit_none {d : D} {c : Int} (h : (d.extended c) = (d, false)) : d.edit c =
    if (d.t.is 5 c) = true then (if (!(if 0 < d.ln.length then d.back else d).loc 4) = true then (if 0 < d.ln.length then d.back else d).show c else (if 0 < d.ln.length then d.back else d))
    else if d.t.is 6 c = true then d.kill c
    else if d.t.is 3 c = true then d.ready
    else if ((d.put c).2 && d.ends c) = true then (d.put c).1.ready else (d.put c).1 := by
  unfold D.edit
  rw [h]
  simp only [Bool.false_eq_true, if_false]
  have bl : ∀ f, d.back.loc f = d.loc f := fun f => by unfold D.back; split <;> rfl
  cases h5 : d.t.is 5 c with
  | true =>
    simp only [Bool.true_and, if_true]
    by_cases hp : 0 < d.ln.length
    · rw [if_pos hp, bl]
      cases h4 : d.loc 4 <;> simp [hp]
    · rw [if_neg hp]; simp [hp]
  | false =>
    simp only [Bool.false_and, Bool.false_eq_true, if_false]
    cases h6 : d.t.is 6 c <;> simp only [Bool.false_eq_true, if_false, if_true]
    cases h3 : d.t.is 3 c <;> simp only [Bool.false_eq_true, if_false, if_true]
    cases he : d.ends c <;> cases hp : (d.put c).2 <;> simp
theorem put_t (d : D) (c : Int) : (d.put c).1.t = d.t := by
  have h1 : ∀ d : D, (d.put1 c).t = d.t := fun d => by
    unfold D.put1 D.show; repeat' split
    all_goals rfl
  unfold D.put; repeat' split
  · rw [h1]
  · rw [h1]
  · unfold D.bell; split <;> rfl

section
variable {h0 h : Heap} {F : List HP} {R : Value → Heap → Prop} {k : Nat} {d : D} {E : List (Value × List Int)}
theorem xst_ec {K : Heap → Prop} (s : HW.Sep h0 (Xc k d E :: F) h) (HK : ∀ h', HW.Sep h0 (Xc k { d with ec := [] } E :: F) h' → K h') : sNil (ptr k 0) fun x => sOff x 22 fun x => sSt h x (.slice none 0 0) fun h' => K h' := by
  obtain ⟨lv, sv, rv, ev, rs, e, so⟩ := Xopen s
  rw [ev_nil, ev_off, Nat.zero_add]
  refine so.st (Nat.le_of_ble_eq_true rfl) trivial (fun h1 s1 => HK h1 ?_)
  exact Xshut (d := { d with ec := [] }) (ev := .slice none 0 0) (rs := rs) e (frz_nilv s1.b2).p2 (by intro x hx; simp only [frL, List.cons_append, List.mem_cons] at hx ⊢; grind)
theorem xst_st {K : Heap → Prop} {b : Bool} (s : HW.Sep h0 (Xc k d E :: F) h) (HK : ∀ h', HW.Sep h0 (Xc k { d with st := b } E :: F) h' → K h') : sNil (ptr k 0) fun x => sOff x 20 fun x => sSt h x (.bool b) fun h' => K h' := by
  obtain ⟨lv, sv, rv, ev, rs, e, so⟩ := Xopen s
  rw [ev_nil, ev_off, Nat.zero_add]
  refine so.st (Nat.le_of_ble_eq_true rfl) trivial (fun h1 s1 => HK h1 ?_)
  exact Xshut (d := { d with st := b }) (lv := lv) (sv := sv) (rv := rv) (ev := ev) (rs := rs) e s1 (fun x hx => hx)
theorem xst_nx {K : Heap → Prop} {b : Bool} (s : HW.Sep h0 (Xc k d E :: F) h) (HK : ∀ h', HW.Sep h0 (Xc k { d with nx := b } E :: F) h' → K h') : sNil (ptr k 0) fun x => sOff x 21 fun x => sSt h x (.bool b) fun h' => K h' := by
  obtain ⟨lv, sv, rv, ev, rs, e, so⟩ := Xopen s
  rw [ev_nil, ev_off, Nat.zero_add]
  refine so.st (Nat.le_of_ble_eq_true rfl) trivial (fun h1 s1 => HK h1 ?_)
  exact Xshut (d := { d with nx := b }) (lv := lv) (sv := sv) (rv := rv) (ev := ev) (rs := rs) e s1 (fun x hx => hx)
theorem xld17 {K : Value → Prop} (s : HW.Sep h0 (Xc k d E :: F) h) (H : ∀ v, Seq (encI .u8) 1 h v d.ln → K v) : sNil (ptr k 0) fun x => sOff x 17 fun x => sLd h x K := by
  obtain ⟨lv, sv, rv, ev, rs, e, so⟩ := Xopen s
  have f17 : ∀ {K : Value → Prop}, sLd h (ptr k 17) K = K lv := so.ld rfl
  rw [ev_nil, ev_off, Nat.zero_add, f17]
  exact H lv (frz_seq so.b2 (by simp [frL]))
theorem xlen17 {K : Value → Prop} (s : HW.Sep h0 (Xc k d E :: F) h) (H : K (.int .i64 d.ln.length)) : sNil (ptr k 0) fun x => sOff x 17 fun x => sLd h x fun x => sLen x K :=
  xld17 s (fun v q => by rw [q.len]; exact H)
theorem xlnAt (s : HW.Sep h0 (Xc k d E :: F) h) : lnAt k h = d.ln.length := by
  obtain ⟨lv, sv, rv, ev, rs, e, s⟩ := Xopen s
  have ql : Seq (encI .u8) 1 h lv d.ln := frz_seq s.b2 (by simp [frL])
  obtain ⟨va, vn, vm, rfl, hl, _⟩ := ql
  have b : h.has k (dC d (.slice va vn vm) sv rv ev) 48 := s.has
  unfold lnAt
  have : h.at k 17 = some (.slice va vn vm) := by rw [b.at]; rfl
  rw [this]; exact hl.symm
theorem last_ok {l : List Int} (h : ∀ c ∈ l, (0 : Int) ≤ c ∧ c < 256) (hne : l ≠ []) : 0 ≤ l.getLastD 0 ∧ l.getLastD 0 < 256 := h _ (List.mem_of_getElem? (last_at (ne_pos hne)))
/-- A word is taken back, and the blanks behind it. -/
theorem xl7 (s : HW.Sep h0 (Xc k d E :: F) h) (ho : okB d) (hb : d.wt ≤ 1073000000) (H : ∀ h', HW.Sep h0 (Xc k (d.backWhile fun c => !blank c) E :: F) h' → R (.int .i64 0) h') : sLoop (S := Unit) (fun nxt s h => betonyref18_Disc_Input_l7 R (ptr k 0) (fun h => nxt () h) h) () h := by
  refine ⟨fun _ h' => ∃ d' : D, d'.backWhile (fun c => !blank c) = d.backWhile (fun c => !blank c) ∧ d'.wt ≤ 1073000000 ∧ okB d' ∧ HW.Sep h0 (Xc k d' E :: F) h', fun _ h' => lnAt k h', ⟨d, rfl, hb, ho, s⟩, ?_⟩
  rintro _ h1 ⟨d', e', hb', ho', s1⟩
  simp only []
  unfold betonyref18_Disc_Input_l7
  refine xlen17 s1 ?_
  have hd : decide ((d'.ln.length : Int) > 0) = !d'.ln.isEmpty := by cases d'.ln <;> simp
  rw [ev_gt, hd]
  have be := backWhile_eq d' (fun c => !blank c)
  refine and_ext (y := !blank (d'.ln.getLastD 0)) (fun hne K' HK => ?_) (fun h2 e2 => ?_)
  · have hne' : d'.ln ≠ [] := by intro hl; rw [hl] at hne; simp at hne
    exact xblank s1 hne' (by omega) (by rw [ev_not]; exact HK _ (Ext.refl _))
  have s2 := s1.ext' e2
  rw [ev_if]
  by_cases hc : (!d'.ln.isEmpty && !blank (d'.ln.getLastD 0)) = true
  · rw [if_pos hc] at be ⊢
    have hne : d'.ln ≠ [] := by intro hl; rw [hl] at hc; simp at hc
    refine xback s2 (last_ok ho'.1 hne) hne (by omega) (fun h3 s3 => ?_)
    have := back_wt d' hne
    have hp := ne_pos hne
    refine ⟨⟨d'.back, by rw [← e', be], by omega, okB_back ho', s3⟩, ?_⟩
    rw [xlnAt s3, xlnAt s1, back_ln, List.length_dropLast]; omega
  · rw [if_neg hc] at be ⊢
    rw [be] at e'
    rw [← e'] at H
    exact H h2 s2
theorem xl6 (s : HW.Sep h0 (Xc k d E :: F) h) (ho : okB d) (hb : d.wt ≤ 1073000000) (H : ∀ h', HW.Sep h0 (Xc k ((d.backWhile blank).backWhile fun c => !blank c) E :: F) h' → R (.int .i64 0) h') : sLoop (S := Unit) (fun nxt s h => betonyref18_Disc_Input_l6 R (ptr k 0) (fun h => nxt () h) h) () h := by
  refine ⟨fun _ h' => ∃ d' : D, d'.backWhile blank = d.backWhile blank ∧ d'.wt ≤ 1073000000 ∧ okB d' ∧ HW.Sep h0 (Xc k d' E :: F) h', fun _ h' => lnAt k h', ⟨d, rfl, hb, ho, s⟩, ?_⟩
  rintro _ h1 ⟨d', e', hb', ho', s1⟩
  simp only []
  unfold betonyref18_Disc_Input_l6
  refine xlen17 s1 ?_
  have hd : decide ((d'.ln.length : Int) > 0) = !d'.ln.isEmpty := by cases d'.ln <;> simp
  rw [ev_gt, hd]
  have be := backWhile_eq d' blank
  refine and_ext (y := blank (d'.ln.getLastD 0)) (fun hne K' HK => ?_) (fun h2 e2 => ?_)
  · have hne' : d'.ln ≠ [] := by intro hl; rw [hl] at hne; simp at hne
    exact xblank s1 hne' (by omega) (HK _ (Ext.refl _))
  have s2 := s1.ext' e2
  rw [ev_if]
  by_cases hc : (!d'.ln.isEmpty && blank (d'.ln.getLastD 0)) = true
  · rw [if_pos hc] at be ⊢
    have hne : d'.ln ≠ [] := by intro hl; rw [hl] at hc; simp at hc
    refine xback s2 (last_ok ho'.1 hne) hne (by omega) (fun h3 s3 => ?_)
    have := back_wt d' hne
    have hp := ne_pos hne
    refine ⟨⟨d'.back, by rw [← e', be], by omega, okB_back ho', s3⟩, ?_⟩
    rw [xlnAt s3, xlnAt s1, back_ln, List.length_dropLast]; omega
  · rw [if_neg hc] at be ⊢
    rw [be] at e'
    rw [← e'] at H
    exact xl7 s2 ho' hb' H
theorem xl9 (s : HW.Sep h0 (Xc k d E :: F) h) (ho : okB d) (hb : d.wt ≤ 500000000) (H : ∀ h', HW.Sep h0 (Xc k (d.showAll d.ln) E :: F) h' → R (.int .i64 0) h') : betonyref18_Disc_Input_j8 R (ptr k 0) h := by
  unfold betonyref18_Disc_Input_j8
  have wts := hb
  unfold D.wt at wts
  refine ⟨fun t h' => ∃ i : Nat, i ≤ d.ln.length ∧ t = .int .i64 i ∧ HW.Sep h0 (Xc k (d.showAll (d.ln.take i)) E :: F) h', fun t _ => match t with | .int _ i => (d.ln.length - i).toNat | _ => 0, ⟨0, Nat.zero_le _, rfl, s⟩, ?_⟩
  rintro _ h1 ⟨i, hi, rfl, s1⟩
  simp only []
  unfold betonyref18_Disc_Input_l9
  have el := showAll_ln (d.ln.take i) d
  have w1 := showAll_wt (d.ln.take i) d
  rw [List.length_take] at w1
  refine xlen17 s1 ?_
  rw [el, ev_lt, ev_if]
  by_cases hlt : i < d.ln.length
  · rw [if_pos (decide_eq_true (by omega))]
    have hg : d.ln[i]? = some d.ln[i] := List.getElem?_eq_getElem hlt
    have hcb := ho.1 d.ln[i] (List.getElem_mem hlt)
    have ht : d.ln.take (i + 1) = d.ln.take i ++ [d.ln[i]] := by rw [List.take_add_one, hg]; rfl
    generalize d.ln[i] = c at hg ht hcb
    refine xld17 s1 (fun v q => ?_)
    rw [el] at q
    rw [Seq.ld q hg rfl]
    refine xshow hcb s1 (by omega) (fun h2 s2 => ?_)
    rw [ev_add, wrap_i64 (by omega) (by omega)]
    refine ⟨⟨i + 1, hlt, by rw [Int.natCast_add]; rfl, ?_⟩, by simp only; omega⟩
    rw [ht]
    unfold D.showAll at s2 ⊢
    rw [List.foldl_append]; exact s2
  · have : i = d.ln.length := by omega
    subst this
    rw [if_neg (by simp)]
    rw [List.take_of_length_le (Nat.le_refl _)] at s1
    exact H h1 s1
end
end Go.Proofs.Ytlcklnbgknhhkaa

end

section
/- The document's discipline: a byte that comes in. -/
set_option linter.unusedSimpArgs false
set_option linter.unusedVariables false
namespace Go.Proofs.Ytlcklnbgknhhkaa
open Go Go.HW

theorem show_t (d : D) (c : Int) : (d.show c).t = d.t := by unfold D.show; split <;> rfl
theorem back_t (d : D) : d.back.t = d.t := by unfold D.back; split <;> rfl
section
variable {h0 h : Heap} {F : List HP} {R : Value → Heap → Prop} {k : Nat} {d : D} {E : List (Value × List Int)}
theorem xj11 {c : Int} (hc : 0 ≤ c ∧ c < 256) (s : HW.Sep h0 (Xc k d E :: F) h) (hb : d.wt ≤ 1073000000) (H : ∀ h', HW.Sep h0 (Xc k (if (!d.t.is 5 c && d.loc 8 && d.loc 2) = true then d.emit [10] else d) E :: F) h' → R (.int .i64 0) h') : betonyref18_Disc_Input_j11 R (ptr k 0) (.int .u8 c) h := by
  unfold betonyref18_Disc_Input_j11 betonyref18_Disc_Input_j12
  refine xis s hc (fun h1 e1 => ?_)
  have s1 := s.ext' e1
  rw [ev_not]
  refine and_ext (y := d.loc 8) (fun _ K' HK => xlocal s1 (HK _ (Ext.refl _))) (fun h2 e2 => ?_)
  have s2 := s1.ext' e2
  refine and_ext (y := d.loc 2) (fun _ K' HK => xlocal s2 (HK _ (Ext.refl _))) (fun h3 e3 => ?_)
  have s3 := s2.ext' e3
  rw [ev_if]
  split
  · rename_i hp
    rw [if_pos hp] at H
    refine s3.slit (enc := encI .u8) (sz := 1) (encI_len .u8) [10] rfl ⟨rfl, Nat.le_of_ble_eq_true rfl, rfl⟩ (fun v h4 cv s4 => ?_)
    exact xout s4 (by unfold D.wt at hb; simp only [List.length_cons, List.length_nil]; omega) (fun h5 s5 => H h5 s5)
  · rename_i hp
    rw [if_neg hp] at H
    exact H h3 s3
theorem xl10 {c : Int} (hc : 0 ≤ c ∧ c < 256) (s : HW.Sep h0 (Xc k d E :: F) h) (ho : okB d) (hb : d.wt ≤ 400000000) (h56 : (d.t.is 5 c || d.t.is 6 c) = true) (hn : d.extended c = (d, false)) (H : ∀ h', HW.Sep h0 (Xc k (d.edit c) E :: F) h' → R (.int .i64 0) h') : sLoop (S := Value) (fun nxt s h => betonyref18_Disc_Input_l10 R (ptr k 0) (.int .u8 c) (fun x8' h => nxt x8' h) s h) (.int .i64 0) h := by
  have wts := hb
  unfold D.wt at wts
  refine ⟨fun t h' => ∃ (j : Nat) (d' : D), t = .int .i64 j ∧ j + d'.ln.length = d.ln.length ∧ d'.wt ≤ d.wt ∧ okB d' ∧ d'.t = d.t ∧ HW.Sep h0 (Xc k d' E :: F) h' ∧ (d.t.is 5 c = true → (j = 0 ∧ d' = d) ∨ (j = 1 ∧ d' = d.back ∧ 0 < d.ln.length)) ∧ (d.t.is 5 c = false → d'.backWhile (fun _ => true) = d.backWhile (fun _ => true)), fun _ h' => lnAt k h', ⟨0, d, rfl, by omega, Nat.le_refl _, ho, rfl, s, fun _ => .inl ⟨rfl, rfl⟩, fun _ => rfl⟩, ?_⟩
  rintro _ h1 ⟨j, d', rfl, hj, hw, ho', ht, s1, h5, h6⟩
  simp only []
  unfold betonyref18_Disc_Input_l10
  refine xlen17 s1 ?_
  have hd : decide ((d'.ln.length : Int) > 0) = !d'.ln.isEmpty := by cases d'.ln <;> simp
  rw [ev_gt, hd]
  refine and_ext (y := ((j : Int) == 0) || !d'.t.is 5 c) (fun _ K' HK => by
    rw [ev_eq]
    exact or_ext (y := !d'.t.is 5 c) (fun _ K'' HK' => xis s1 hc (fun h3 e3 => by rw [ev_not]; exact HK' _ e3)) (fun h3 e3 => HK _ e3)) (fun h2 e2 => ?_)
  have s2 := s1.ext' e2
  rw [ht, ev_if]
  have be := backWhile_eq d' (fun _ => true)
  by_cases hcn : (!d'.ln.isEmpty && (((j : Int) == 0) || !d.t.is 5 c)) = true
  · rw [if_pos hcn]
    simp only [Bool.and_eq_true] at hcn
    have hne : d'.ln ≠ [] := by intro hl; rw [hl] at hcn; simp at hcn
    have hp := ne_pos hne
    refine xback s2 (last_ok ho'.1 hne) hne (by omega) (fun h3 s3 => ?_)
    have bw := back_wt d' hne
    rw [ev_add, wrap_i64 (by omega) (by omega)]
    refine ⟨⟨j + 1, d'.back, by rw [Int.natCast_add]; rfl, by rw [back_ln, List.length_dropLast]; omega, by omega, okB_back ho', by rw [back_t, ht], s3, fun h => ?_, fun h => ?_⟩, by rw [xlnAt s3, xlnAt s1, back_ln, List.length_dropLast]; omega⟩
    · have hj0 : j = 0 := by have := hcn.2; rw [h] at this; simpa using this
      rcases h5 h with ⟨_, e⟩ | ⟨e, _⟩
      · subst e; exact .inr ⟨by omega, rfl, hp⟩
      · omega
    · have hcond : (!d'.ln.isEmpty && (fun _ => true) (d'.ln.getLastD 0)) = true := by simp only [Bool.and_true]; exact hcn.1
      rw [if_pos hcond] at be
      rw [← be]; exact h6 h
  · rw [if_neg hcn]
    have hA : d' = if d.t.is 5 c = true then (if 0 < d.ln.length then d.back else d) else d.backWhile (fun _ => true) := by
      cases e5 : d.t.is 5 c with
      | true =>
        rw [if_pos rfl]
        rcases h5 e5 with ⟨e, rfl⟩ | ⟨_, e, hp⟩
        · subst e
          simp at hcn
          rw [if_neg (by rw [hcn]; simp)]
        · rw [if_pos hp]; exact e
      | false =>
        rw [if_neg (by decide)]
        rw [e5] at hcn
        have hem : ¬ (!d'.ln.isEmpty && (fun _ => true) (d'.ln.getLastD 0)) = true := by simpa using hcn
        rw [if_neg hem] at be
        rw [← h6 e5, be]
    refine xlocal s2 ?_
    rw [ev_not, ev_if]
    have he := edit_none hn
    have step : ∀ h4, HW.Sep h0 (Xc k (if (!d'.loc 4) = true then d'.show c else d') E :: F) h4 → betonyref18_Disc_Input_j11 R (ptr k 0) (.int .u8 c) h4 := by
      intro h4 s4
      have w4 : (if (!d'.loc 4) = true then d'.show c else d').wt ≤ 500000000 := by
        have := show_wt d' c
        split <;> omega
      have t4 : (if (!d'.loc 4) = true then d'.show c else d').t = d.t := by split; rw [show_t, ht]; exact ht
      refine xj11 hc s4 (by omega) (fun h5' s5 => H h5' ?_)
      rw [he]
      cases e5 : d.t.is 5 c with
      | true =>
        rw [e5, if_pos rfl] at hA
        rw [t4, e5] at s5
        simp only [Bool.not_true, Bool.false_and, Bool.false_eq_true, if_false] at s5
        rw [if_pos rfl, ← hA]
        exact s5
      | false =>
        rw [e5, if_neg (by decide)] at hA
        rw [e5, Bool.false_or] at h56
        rw [t4, e5] at s5
        simp only [Bool.not_false, Bool.true_and] at s5
        rw [if_neg (by decide), if_pos h56]
        unfold D.kill
        simp only
        rw [← hA]
        exact s5
    by_cases h4 : (!d'.loc 4) = true
    · rw [if_pos h4] at step ⊢
      exact xshow hc s2 (by omega) (fun h3 s3 => step h3 s3)
    · rw [if_neg h4] at step ⊢
      exact step h2 s2
/-- What an edited byte does. -/
def inD (d : D) (c : Int) : D × Int := if d.signal c ≠ 0 then (d.sig c, d.signal c) else if d.loc 1 = true then (d.edit c, 0) else ((d.put c).1, 0)
set_option maxRecDepth 20000 in
theorem xj2 {c : Int} (hc : 0 ≤ c ∧ c < 256) (s : HW.Sep h0 (Xc k d E :: F) h) (ho : okB d) (hb : d.wt ≤ 300000100) (H : ∀ h', HW.Sep h0 (Xc k (inD d c).1 E :: F) h' → R (.int .i64 (inD d c).2) h') : betonyref18_Disc_Input_j2 R (ptr k 0) (.int .u8 c) h := by
  unfold betonyref18_Disc_Input_j2
  have wts := hb
  unfold D.wt at wts
  refine ⟨fun t h' => ∃ i : Nat, i ≤ 3 ∧ t = .int .i64 i ∧ HW.Sep h0 (Xc k d E :: F) h' ∧ ∀ j : Nat, j < i → d.t.is (j : Int) c = false, fun t _ => match t with | .int _ i => (3 - i).toNat | _ => 0, ⟨0, by omega, rfl, s, fun j hj => by omega⟩, ?_⟩
  rintro _ h1 ⟨i, hi, rfl, s1, hnot⟩
  simp only []
  unfold betonyref18_Disc_Input_l3
  rw [ev_lt]
  refine and_ext (y := d.loc 64) (fun _ K' HK => xlocal s1 (HK _ (Ext.refl _))) (fun h2 e2 => ?_)
  have s2 := s1.ext' e2
  rw [ev_if]
  by_cases hcn : (decide ((i : Int) < 3) && d.loc 64) = true
  · rw [if_pos hcn]
    simp only [Bool.and_eq_true, decide_eq_true_eq] at hcn
    refine xis s2 hc (fun h3 e3 => ?_)
    have s3 := s2.ext' e3
    rw [ev_if]
    by_cases his : d.t.is (i : Int) c = true
    · rw [if_pos his]
      have hsig : d.signal c = (i : Int) + 1 := by
        unfold D.signal
        rw [hcn.2, if_neg (by decide)]
        rcases (show i = 0 ∨ i = 1 ∨ i = 2 by omega) with rfl | rfl | rfl
        · rw [show ((0 : Nat) : Int) = 0 from rfl] at his
          rw [if_pos his]; rfl
        · have h0 := hnot 0 (by omega)
          rw [show ((1 : Nat) : Int) = 1 from rfl] at his
          rw [show ((0 : Nat) : Int) = 0 from rfl] at h0
          rw [if_neg (by rw [h0]; decide), if_pos his]; rfl
        · have h0 := hnot 0 (by omega)
          have h1 := hnot 1 (by omega)
          rw [show ((0 : Nat) : Int) = 0 from rfl] at h0
          rw [show ((1 : Nat) : Int) = 1 from rfl] at h1
          rw [show ((2 : Nat) : Int) = 2 from rfl] at his
          rw [if_neg (by rw [h0]; decide), if_neg (by rw [h1]; decide), if_pos his]; rfl
      have hin : inD d c = (d.sig c, (i : Int) + 1) := by unfold inD; rw [if_pos (by rw [hsig]; omega), hsig]
      rw [hin] at H
      refine xshow hc s3 (by omega) (fun h4 s4 => ?_)
      refine xlocal s4 ?_
      rw [ev_not, ev_if]
      unfold D.sig at H
      unfold betonyref18_Disc_Input_j4
      by_cases h128 : (!(d.show c).loc 128) = true
      · rw [if_pos h128] at H ⊢
        refine xflush s4 (fun h5 s5 => ?_)
        refine xst_st s5 (fun h6 s6 => ?_)
        rw [ev_add, wrap_i64 (by omega) (by omega)]
        exact H h6 s6
      · rw [if_neg h128] at H ⊢
        rw [ev_add, wrap_i64 (by omega) (by omega)]
        exact H h4 s4
    · rw [if_neg his, ev_add, wrap_i64 (by omega) (by omega)]
      refine ⟨⟨i + 1, by omega, by rw [Int.natCast_add]; rfl, s3, fun j hj => ?_⟩, by simp only; omega⟩
      rcases Nat.lt_or_ge j i with h | h
      · exact hnot j h
      · have : j = i := by omega
        subst this; simpa using his
  rw [if_neg hcn]
  have hsig : d.signal c = 0 := by
    unfold D.signal
    cases h64 : d.loc 64 with
    | false => rfl
    | true =>
      rw [h64] at hcn
      have h3 : i = 3 := by simp at hcn; omega
      subst h3
      have h0 := hnot 0 (by omega)
      have h1 := hnot 1 (by omega)
      have h2 := hnot 2 (by omega)
      rw [show ((0 : Nat) : Int) = 0 from rfl] at h0
      rw [show ((1 : Nat) : Int) = 1 from rfl] at h1
      rw [show ((2 : Nat) : Int) = 2 from rfl] at h2
      rw [h0, h1, h2]; rfl
  refine xlocal s2 ?_
  rw [ev_not, ev_if]
  cases hl1 : d.loc 1 with
  | false =>
    have hin : inD d c = ((d.put c).1, 0) := by unfold inD; rw [if_neg (by rw [hsig]; decide), hl1, if_neg (by decide)]
    rw [hin] at H
    rw [if_pos (by decide)]
    exact xput hc s2 (by omega) (fun h3 s3 => H h3 s3)
  | true =>
  have hin : inD d c = (d.edit c, 0) := by unfold inD; rw [if_neg (by rw [hsig]; decide), if_pos hl1]
  rw [hin] at H
  simp only at H
  rw [if_neg (by decide)]
  refine xlocal s2 ?_
  refine and_ext (y := d.t.is 9 c) (fun _ K' HK => xis s2 hc (fun h3 e3 => HK _ e3)) (fun h3 e3 => ?_)
  have s3 := s2.ext' e3
  rw [ev_if]
  by_cases h9 : (d.loc 512 && d.t.is 9 c) = true
  · rw [if_pos h9]
    simp only [Bool.and_eq_true] at h9
    have he : d.edit c = if d.loc 2 = true then ({ d with nx := true } : D).emit [94, 8] else { d with nx := true } := by
      have : d.extended c = (if d.loc 2 = true then ({ d with nx := true } : D).emit [94, 8] else { d with nx := true }, true) := by
        unfold D.extended; rw [h9.1, h9.2]; simp only [Bool.not_true, Bool.false_eq_true, if_false, if_true]
      unfold D.edit; rw [this]; simp only [if_true]
    rw [he] at H
    refine xst_nx s3 (fun h4 s4 => ?_)
    refine xlocal s4 ?_
    rw [show ({ d with nx := true } : D).loc 2 = d.loc 2 from rfl, ev_if]
    unfold betonyref18_Disc_Input_j5
    cases h2c : d.loc 2 with
    | true =>
      rw [h2c, if_pos rfl] at H
      rw [if_pos rfl]
      refine s4.slit (enc := encI .u8) (sz := 1) (encI_len .u8) [94, 8] rfl ⟨rfl, Nat.le_of_ble_eq_true rfl, rfl, Nat.le_of_ble_eq_true rfl, rfl⟩ (fun v h5 cv s5 => ?_)
      exact xout s5 (by simp only [List.length_cons, List.length_nil]; omega) (fun h6 s6 => H h6 s6)
    | false =>
      rw [h2c, if_neg (by decide)] at H
      rw [if_neg (by decide)]
      exact H h4 s4
  rw [if_neg h9]
  refine xlocal s3 ?_
  refine and_ext (y := d.t.is 7 c) (fun _ K' HK => xis s3 hc (fun h4 e4 => HK _ e4)) (fun h4 e4 => ?_)
  have s4 := s3.ext' e4
  rw [ev_if]
  have f9 : d.loc 512 = true → d.t.is 9 c = false := fun h => by rw [h, Bool.true_and] at h9; simpa using h9
  by_cases h7 : (d.loc 512 && d.t.is 7 c) = true
  · rw [if_pos h7]
    simp only [Bool.and_eq_true] at h7
    have he : d.edit c = (d.backWhile blank).backWhile (fun c => !blank c) := by
      have : d.extended c = ((d.backWhile blank).backWhile (fun c => !blank c), true) := by
        unfold D.extended; rw [h7.1, f9 h7.1, h7.2]; simp only [Bool.not_true, Bool.false_eq_true, if_false, if_true]
      unfold D.edit; rw [this]; simp only [if_true]
    rw [he] at H
    exact xl6 s4 ho (by omega) H
  rw [if_neg h7]
  refine xlocal s4 ?_
  refine and_ext (y := d.t.is 8 c) (fun _ K' HK => xis s4 hc (fun h5 e5 => HK _ e5)) (fun h5 e5 => ?_)
  have s5 := s4.ext' e5
  rw [ev_if]
  have f7 : d.loc 512 = true → d.t.is 7 c = false := fun h => by rw [h, Bool.true_and] at h7; simpa using h7
  by_cases h8 : (d.loc 512 && d.t.is 8 c) = true
  · rw [if_pos h8]
    simp only [Bool.and_eq_true] at h8
    have he : d.edit c = d.reprint c := by
      have : d.extended c = (d.reprint c, true) := by
        unfold D.extended; rw [h8.1, f9 h8.1, f7 h8.1, h8.2]; simp only [Bool.not_true, Bool.false_eq_true, if_false, if_true]
      unfold D.edit; rw [this]; simp only [if_true]
    rw [he] at H
    unfold D.reprint at H
    have sw := show_wt d c
    refine xshow hc s5 (by omega) (fun h6 s6 => ?_)
    refine xlocal s6 ?_
    rw [ev_if]
    have el := show_ln d c
    cases h2c : (d.show c).loc 2 with
    | true =>
      rw [h2c, if_pos rfl] at H
      rw [if_pos rfl]
      refine s6.slit (enc := encI .u8) (sz := 1) (encI_len .u8) [10] rfl ⟨rfl, Nat.le_of_ble_eq_true rfl, rfl⟩ (fun v h7' cv s7 => ?_)
      refine xout s7 (by unfold D.wt at sw; simp only [List.length_cons, List.length_nil]; omega) (fun h8' s8 => ?_)
      refine xl9 s8 (okB_emit _ (okB_show c ho)) (by rw [emit_wt]; simp only [List.length_cons, List.length_nil]; omega) (fun h9' s9 => H h9' ?_)
      rw [show ((d.show c).emit [10]).ln = d.ln from el] at s9
      exact s9
    | false =>
      rw [h2c, if_neg (by decide)] at H
      rw [if_neg (by decide)]
      refine xl9 s6 (okB_show c ho) (by omega) (fun h9' s9 => H h9' ?_)
      rw [el] at s9
      exact s9
  rw [if_neg h8]
  have f8 : d.loc 512 = true → d.t.is 8 c = false := fun h => by rw [h, Bool.true_and] at h8; simpa using h8
  have hn : d.extended c = (d, false) := by
    unfold D.extended
    cases h512 : d.loc 512 with
    | false => rfl
    | true => rw [f9 h512, f7 h512, f8 h512]; rfl
  refine xis s5 hc (fun h6 e6 => ?_)
  have s6 := s5.ext' e6
  refine or_ext (y := d.t.is 6 c) (fun _ K' HK => xis s6 hc (fun h7' e7 => HK _ e7)) (fun h7' e7 => ?_)
  have s7 := s6.ext' e7
  rw [ev_if]
  by_cases h56 : (d.t.is 5 c || d.t.is 6 c) = true
  · rw [if_pos h56]
    exact xl10 hc s7 ho (by omega) h56 hn H
  rw [if_neg h56]
  have he := edit_none hn
  simp only [Bool.or_eq_true, not_or, Bool.not_eq_true] at h56
  rw [h56.1, h56.2] at he
  simp only [Bool.false_eq_true, if_false] at he
  rw [he] at H
  refine xis s7 hc (fun h8' e8 => ?_)
  have s8 := s7.ext' e8
  rw [ev_if]
  cases h3 : d.t.is 3 c with
  | true =>
    rw [h3, if_pos rfl] at H
    rw [if_pos rfl]
    exact xready s8 (by omega) H
  | false =>
    rw [h3, if_neg (by decide)] at H
    rw [if_neg (by decide)]
    have pw := put_wt d c
    refine xput hc s8 (by omega) (fun h9' s9 => ?_)
    refine and_ext (y := d.ends c) (fun _ K' HK => by
      rw [ev_eq]
      refine or_ext (y := d.t.is 4 c) (fun _ K'' HK' => xis s9 hc (fun h10 e10 => ?_)) (fun h10 e10 => HK _ e10)
      rw [put_t]; exact HK' _ e10) (fun h10 e10 => ?_)
    have s10 := s9.ext' e10
    unfold betonyref18_Disc_Input_j13
    rw [ev_if]
    split
    · rename_i hp
      rw [if_pos hp] at H
      exact xready s10 (by omega) H
    · rename_i hp
      rw [if_neg hp] at H
      exact H h10 s10
theorem xInput {c : Int} (hc : 0 ≤ c ∧ c < 256) (s : HW.Sep h0 (Xc k d E :: F) h) (ho : okB d) (hb : d.wt ≤ 300000000) (H : ∀ h', HW.Sep h0 (Xc k (d.input c).1 E :: F) h' → R (.int .i64 (d.input c).2) h') : betonyref18_Disc_Input_c (ptr k 0) (.int .u8 c) h R := by
  apply betonyref18_Disc_Input_runs
  unfold betonyref18_Disc_Input_S
  have wts := hb
  unfold D.wt at wts
  unfold D.input at H
  have w0 : ({ d with ec := [] } : D).wt ≤ 300000000 := by unfold D.wt; simp only [List.length_nil]; omega
  have ho : okB { d with ec := [] } := okB_same ho rfl rfl rfl
  refine xst_ec s (fun h1 s1 => ?_)
  generalize ({ d with ec := [] } : D) = d0 at s1 H w0 ho
  clear wts hb
  obtain ⟨lv, sv, rv, ev, rs, e, so⟩ := Xopen s1
  have f21 : ∀ {K : Value → Prop}, sLd h1 (ptr k 21) K = K (.bool d0.nx) := so.ld rfl
  rw [ev_nil, ev_off, Nat.zero_add, f21, ev_if]
  unfold D.byte at H
  by_cases hx : d0.nx = true
  · rw [if_pos hx] at H ⊢
    refine xst_nx s1 (fun h2 s2 => ?_)
    refine xin s2 ?_
    rw [show ({ d0 with nx := false } : D).inn 1 = d0.inn 1 from rfl, ev_if]
    unfold betonyref18_Disc_Input_j1
    cases hi1 : d0.inn 1 with
    | true =>
      rw [hi1, if_pos rfl] at H
      rw [if_pos rfl, ev_rem (by decide), Int.tmod_eq_emod_of_nonneg hc.1]
      exact xput (by omega) s2 (by show d0.wt ≤ _; omega) (fun h3 s3 => H h3 s3)
    | false =>
      rw [hi1, if_neg (by decide)] at H
      rw [if_neg (by decide)]
      exact xput hc s2 (by show d0.wt ≤ _; omega) (fun h3 s3 => H h3 s3)
  rw [if_neg hx] at H ⊢
  have b := so.has
  rw [ev_nil, ev_off, Nat.zero_add, xt_ld b]
  refine rmap_spec hc (fun h2 e2 => ?_)
  have s2 := s1.ext' e2
  have mr := map_rng d0.t hc
  rw [ev_lt, ev_if]
  cases hm : (d0.t.map c).2 with
  | false =>
    rw [hm, if_pos rfl] at H
    rw [if_neg Bool.false_ne_true, if_pos (by decide)]
    exact H h2 s2
  | true =>
  rw [hm, if_neg (by decide)] at H
  rw [if_pos rfl, if_neg (by simp; omega), ev_conv]
  generalize (d0.t.map c).1 = m at H mr
  have wm : IntKind.u8.wrap m = m := wrap_u8 (by omega) (by omega)
  rw [wm]
  refine xin s2 ?_
  refine and_ext (y := d0.t.is 11 m || d0.t.is 10 m) (fun _ K' HK => xis s2 mr (fun h3 e3 => or_ext (y := d0.t.is 10 m) (fun _ K'' HK' => xis (s2.ext' e3) mr (fun h4 e4 => HK' _ e4)) (fun h4 e4 => HK _ (e3.trans e4)))) (fun h3 e3 => ?_)
  have s3 := s2.ext' e3
  rw [ev_if]
  have hR : ∀ d1 : D, d0.flow m = (d1, false) → (∀ h', HW.Sep h0 (Xc k (inD d1 m).1 E :: F) h' → R (.int .i64 (inD d1 m).2) h') := by
    intro d1 hf h' s'
    rw [hf] at H
    simp only at H
    rw [if_neg (by decide)] at H
    unfold inD at s' ⊢
    by_cases hs : d1.signal m ≠ 0
    · rw [if_pos hs] at H s' ⊢; exact H h' s'
    · rw [if_neg hs] at H s' ⊢
      by_cases hl : d1.loc 1 = true
      · rw [if_pos hl] at H s' ⊢; exact H h' s'
      · rw [if_neg hl] at H s' ⊢; exact H h' s'
  by_cases hfl : (d0.inn 16 && (d0.t.is 11 m || d0.t.is 10 m)) = true
  · rw [if_pos hfl]
    simp only [Bool.and_eq_true] at hfl
    have hf : d0.flow m = ({ d0 with st := d0.t.is 11 m }, true) := by
      unfold D.flow
      rw [hfl.1, if_neg (by decide)]
      cases h11 : d0.t.is 11 m with
      | true => rfl
      | false =>
        have h10 := hfl.2
        rw [h11, Bool.false_or] at h10
        rw [if_neg (by decide), if_pos h10]
    rw [hf] at H
    simp only [if_true] at H
    refine xis s3 mr (fun h4 e4 => ?_)
    exact xst_st (s3.ext' e4) (fun h5 s5 => H h5 s5)
  rw [if_neg hfl]
  refine xin s3 ?_
  refine and_ext (y := d0.inn 32) (fun _ K' HK => xin s3 (HK _ (Ext.refl _))) (fun h4 e4 => ?_)
  have s4 := s3.ext' e4
  rw [ev_if]
  by_cases h32 : (d0.inn 16 && d0.inn 32) = true
  · rw [if_pos h32]
    simp only [Bool.and_eq_true] at h32
    have hf : d0.flow m = ({ d0 with st := false }, false) := by
      unfold D.flow
      rw [h32.1, Bool.true_and] at hfl
      simp only [Bool.or_eq_true, not_or, Bool.not_eq_true] at hfl
      rw [h32.1, hfl.1, hfl.2, h32.2]; rfl
    refine xst_st s4 (fun h5 s5 => ?_)
    exact xj2 mr s5 (okB_same ho rfl rfl rfl) (by show d0.wt ≤ _; omega) (hR _ hf)
  · rw [if_neg h32]
    have hf : d0.flow m = (d0, false) := by
      unfold D.flow
      cases h16 : d0.inn 16 with
      | false => rfl
      | true =>
        rw [h16, Bool.true_and] at hfl h32
        simp only [Bool.or_eq_true, not_or, Bool.not_eq_true] at hfl
        rw [hfl.1, hfl.2]
        simp only [Bool.not_eq_true] at h32
        rw [h32]; rfl
    exact xj2 mr s4 ho (by omega) (hR _ hf)
end
end Go.Proofs.Ytlcklnbgknhhkaa

end

section
/- The shallow reading of one function, and that the function does it. Written by a program. -/
set_option linter.unusedVariables false
namespace Go.Proofs.Ytlcklnbgknhhkaa
open Go Go.HW

def betonyref18_Disc_Read_j1 (R : Value → Heap → Prop) (x0 x52 x48 x8 : Value) (h_4 : Heap) : Prop :=
  sNil x0 fun x72 =>
  sOff x72 18 fun x73 =>
  sSt h_4 x73 x8 fun h_5 => 
  sSl x48 none (some x52) 1 fun x76 =>
  sLen x48 fun x78 =>
  sEq x78 (.int .i64 0) fun x79 =>
  R (.tuple #[x76, x79]) h_5
def betonyref18_Disc_Read_S (x0 x1 : Value) (h : Heap) (R : Value → Heap → Prop) : Prop :=
  sLt x1 (.int .i64 1) fun x10 =>
  sIf x10 (R (.tuple #[(.slice none 0 0), (.bool false)]) h) (betonyref18_Disc_local_c x0 (.int .i64 1) h fun x12 h => 
  sNot x12 fun x13 =>
  sIf x13 (sNil x0 fun x16 =>
  sOff x16 19 fun x17 =>
  sLd h x17 fun x18 =>
  sLen x18 fun x19 =>
  sMin x1 x19 fun x20 =>
  sNil x0 fun x22 =>
  sOff x22 19 fun x23 =>
  sLd h x23 fun x24 =>
  sSl x24 none (some x20) 1 fun x26 =>
  sNil x0 fun x29 =>
  sOff x29 19 fun x30 =>
  sLd h x30 fun x31 =>
  sSl x31 (some x20) none 1 fun x33 =>
  sNil x0 fun x34 =>
  sOff x34 19 fun x35 =>
  sSt h x35 x33 fun h_1 => 
  R (.tuple #[x26, (.bool false)]) h_1) (sNil x0 fun x38 =>
  sOff x38 18 fun x39 =>
  sLd h x39 fun x40 =>
  sLen x40 fun x41 =>
  sEq x41 (.int .i64 0) fun x42 =>
  sIf x42 (R (.tuple #[(.slice none 0 0), (.bool false)]) h) (sNil x0 fun x44 =>
  sOff x44 18 fun x45 =>
  sLd h x45 fun x46 =>
  sIxS x46 (.int .i64 0) 1 fun x47 =>
  sLd h x47 fun x48 =>
  sLen x48 fun x51 =>
  sMin x1 x51 fun x52 =>
  sSlit h #[] [] 30 0 fun x53 h_2 => 
  sNil x0 fun x55 =>
  sOff x55 18 fun x56 =>
  sLd h_2 x56 fun x57 =>
  sSl x57 (some (.int .i64 1)) none 1 fun x58 =>
  sApp h_2 x53 x58 #[.slice none 0 0] 30 24 fun x59 h_3 => 
  sLen x48 fun x62 =>
  sLt x52 x62 fun x63 =>
  sIf x63 (sSl x48 (some x52) none 1 fun x66 =>
  sSlit h_3 #[.slice none 0 0] [(0, 1, x66)] 30 1 fun x67 h_6 => 
  sApp h_6 x67 x59 #[.slice none 0 0] 30 24 fun x69 h_7 => 
  betonyref18_Disc_Read_j1 R x0 x52 x48 x69 h_7) (betonyref18_Disc_Read_j1 R x0 x52 x48 x59 h_3))))
set_option maxRecDepth 100000 in
theorem betonyref18_Disc_Read_runs {x0 x1 : Value} {h : Heap} {R : Value → Heap → Prop} (H : betonyref18_Disc_Read_S x0 x1 h R) : betonyref18_Disc_Read_c x0 x1 h R := by
 unfold betonyref18_Disc_Read_S at H
 refine runs_of (b := ⟨(Ap [x0, x1] 78).toArray, []⟩) Try.call24 Try.func24 rfl (by kernel_rfl) (fun w0 HA => ?_)
 refine wp_seq (lwp_list ?_)
 refine ls_assign (x := (.slice none 0 0)) (by kernel_rfl) (by kernel_rfl) ?_
 refine ls_assign (x := (.bool false)) (by kernel_rfl) (by kernel_rfl) ?_
 refine ls_nil (then_normal ?_)
 refine fr_eq (b := ⟨(Ap [x0, x1, ud, ud, (.slice none 0 0), (.bool false)] 74).toArray, []⟩) (by kernel_rfl) ?_
 refine wp_seq ?_
 refine wp_seq (lwp_list ?_)
 refine ls_move (x := x1) (by kernel_rfl) (by kernel_rfl) ?_
 refine ls_p (d := some 10) (by kernel_rfl) (by kernel_rfl) (p_sLt (by kernel_rfl) (by kernel_rfl) H) (fun x10 H => ?_)
 refine ls_nil (then_normal ?_)
 refine fr_eq (b := ⟨(Ap [x0, x1, ud, ud, (.slice none 0 0), (.bool false), ud, ud, ud, x1, x10] 69).toArray, []⟩) (by kernel_rfl) ?_
 refine wp_if rfl H (fun H => ?_) (fun H => ?_)
 ·refine wp_seq (lwp_list ?_)
  refine ls_assign (x := (.slice none 0 0)) (by kernel_rfl) (by kernel_rfl) ?_
  refine ls_assign (x := (.bool false)) (by kernel_rfl) (by kernel_rfl) ?_
  refine ls_nil (then_normal ?_)
  refine fr_eq (b := ⟨(Ap [x0, x1, ud, ud, (.slice none 0 0), (.bool false), ud, ud, ud, x1, x10] 69).toArray, []⟩) (by kernel_rfl) ?_
  refine wp_ret ?_
  refine then_ret ?_
  exact end2 (Try.results24) (by kernel_rfl) (by kernel_rfl) (by kernel_rfl) HA H _ (.inr rfl)
 ·refine wp_skip ?_
  refine then_normal ?_
  refine fr_eq (b := ⟨(Ap [x0, x1, ud, ud, (.slice none 0 0), (.bool false), ud, ud, ud, x1, x10] 69).toArray, []⟩) (by kernel_rfl) ?_
  refine wp_seq ?_
  refine wp_seq (lwp_list ?_)
  refine ls_move (x := x0) (by kernel_rfl) (by kernel_rfl) ?_
  refine ls_d (d := some 12) (by kernel_rfl) (by kernel_rfl) HA (d_call (by kernel_rfl) (by kernel_rfl) H) (fun x12 h w H HA => ?_)
  refine ls_p (d := some 13) (by kernel_rfl) (by kernel_rfl) (p_not (by kernel_rfl) H) (fun x13 H => ?_)
  refine ls_nil (then_normal ?_)
  refine fr_eq (b := ⟨(Ap [x0, x1, ud, ud, (.slice none 0 0), (.bool false), ud, ud, ud, x1, x10, x0, x12, x13] 66).toArray, []⟩) (by kernel_rfl) ?_
  refine wp_if rfl H (fun H => ?_) (fun H => ?_)
  ·refine wp_seq (lwp_list ?_)
   refine ls_move (x := x1) (by kernel_rfl) (by kernel_rfl) ?_
   refine ls_move (x := x0) (by kernel_rfl) (by kernel_rfl) ?_
   refine ls_p (d := some 16) (by kernel_rfl) (by kernel_rfl) (p_nil (by kernel_rfl) H) (fun x16 H => ?_)
   refine ls_p (d := some 17) (by kernel_rfl) (by kernel_rfl) (p_off Try.underlying48 rfl (fun w => ⟨_, Try.sizeOf30 w⟩) rfl (by kernel_rfl) H) (fun x17 H => ?_)
   refine ls_y (d := some 18) (by kernel_rfl) (by kernel_rfl) HA (y_ld Try.isAgg30 (by kernel_rfl) H) (fun x18 H => ?_)
   refine ls_p (d := some 19) (by kernel_rfl) (by kernel_rfl) (p_len Try.underlying30 (by kernel_rfl) H) (fun x19 H => ?_)
   refine ls_fr (b := ⟨(Ap [x0, x1, ud, ud, (.slice none 0 0), (.bool false), ud, ud, ud, x1, x10, x0, x12, x13, x1, x0, x16, x17, x18, x19] 60).toArray, []⟩) (by kernel_rfl) ?_
   refine ls_p (d := some 20) (by kernel_rfl) (by kernel_rfl) (p_min (by kernel_rfl) (by kernel_rfl) H) (fun x20 H => ?_)
   refine ls_assign (x := x20) (by kernel_rfl) (by kernel_rfl) ?_
   refine ls_nil (then_normal ?_)
   refine fr_eq (b := ⟨(Ap [x0, x20, ud, ud, (.slice none 0 0), (.bool false), ud, ud, ud, x1, x10, x0, x12, x13, x1, x0, x16, x17, x18, x19, x20] 59).toArray, []⟩) (by kernel_rfl) ?_
   refine wp_seq (lwp_list ?_)
   refine ls_move (x := x0) (by kernel_rfl) (by kernel_rfl) ?_
   refine ls_p (d := some 22) (by kernel_rfl) (by kernel_rfl) (p_nil (by kernel_rfl) H) (fun x22 H => ?_)
   refine ls_p (d := some 23) (by kernel_rfl) (by kernel_rfl) (p_off Try.underlying48 rfl (fun w => ⟨_, Try.sizeOf30 w⟩) rfl (by kernel_rfl) H) (fun x23 H => ?_)
   refine ls_y (d := some 24) (by kernel_rfl) (by kernel_rfl) HA (y_ld Try.isAgg30 (by kernel_rfl) H) (fun x24 H => ?_)
   refine ls_move (x := x20) (by kernel_rfl) (by kernel_rfl) ?_
   refine ls_p (d := some 26) (by kernel_rfl) (by kernel_rfl) (p_sl Try.underlying30 Try.sizeOf5 (by kernel_rfl) (by kernel_rfl) (by kernel_rfl) H) (fun x26 H => ?_)
   refine ls_fr (b := ⟨(Ap [x0, x20, ud, ud, (.slice none 0 0), (.bool false), ud, ud, ud, x1, x10, x0, x12, x13, x1, x0, x16, x17, x18, x19, x20, x0, x22, x23, x24, x20, x26] 53).toArray, []⟩) (by kernel_rfl) ?_
   refine ls_assign (x := x26) (by kernel_rfl) (by kernel_rfl) ?_
   refine ls_nil (then_normal ?_)
   refine fr_eq (b := ⟨(Ap [x0, x20, ud, ud, (.slice none 0 0), (.bool false), x26, ud, ud, x1, x10, x0, x12, x13, x1, x0, x16, x17, x18, x19, x20, x0, x22, x23, x24, x20, x26] 53).toArray, []⟩) (by kernel_rfl) ?_
   refine wp_seq (lwp_list ?_)
   refine ls_move (x := x0) (by kernel_rfl) (by kernel_rfl) ?_
   refine ls_move (x := x0) (by kernel_rfl) (by kernel_rfl) ?_
   refine ls_p (d := some 29) (by kernel_rfl) (by kernel_rfl) (p_nil (by kernel_rfl) H) (fun x29 H => ?_)
   refine ls_p (d := some 30) (by kernel_rfl) (by kernel_rfl) (p_off Try.underlying48 rfl (fun w => ⟨_, Try.sizeOf30 w⟩) rfl (by kernel_rfl) H) (fun x30 H => ?_)
   refine ls_y (d := some 31) (by kernel_rfl) (by kernel_rfl) HA (y_ld Try.isAgg30 (by kernel_rfl) H) (fun x31 H => ?_)
   refine ls_move (x := x20) (by kernel_rfl) (by kernel_rfl) ?_
   refine ls_fr (b := ⟨(Ap [x0, x20, ud, ud, (.slice none 0 0), (.bool false), x26, ud, ud, x1, x10, x0, x12, x13, x1, x0, x16, x17, x18, x19, x20, x0, x22, x23, x24, x20, x26, x0, x0, x29, x30, x31, x20] 47).toArray, []⟩) (by kernel_rfl) ?_
   refine ls_p (d := some 33) (by kernel_rfl) (by kernel_rfl) (p_sl Try.underlying30 Try.sizeOf5 (by kernel_rfl) (by kernel_rfl) (by kernel_rfl) H) (fun x33 H => ?_)
   refine ls_p (d := some 34) (by kernel_rfl) (by kernel_rfl) (p_nil (by kernel_rfl) H) (fun x34 H => ?_)
   refine ls_p (d := some 35) (by kernel_rfl) (by kernel_rfl) (p_off Try.underlying48 rfl (fun w => ⟨_, Try.sizeOf30 w⟩) rfl (by kernel_rfl) H) (fun x35 H => ?_)
   refine ls_d (d := none) (by kernel_rfl) (by kernel_rfl) HA (d_st Try.sizeOf30 (by kernel_rfl) (by kernel_rfl) H) (fun _ h_1 w_1 H HA_1 => ?_)
   refine ls_nil (then_normal ?_)
   refine fr_eq (b := ⟨(Ap [x0, x20, ud, ud, (.slice none 0 0), (.bool false), x26, ud, ud, x1, x10, x0, x12, x13, x1, x0, x16, x17, x18, x19, x20, x0, x22, x23, x24, x20, x26, x0, x0, x29, x30, x31, x20, x33, x34, x35] 44).toArray, []⟩) (by kernel_rfl) ?_
   refine wp_seq (lwp_list ?_)
   refine ls_move (x := x26) (by kernel_rfl) (by kernel_rfl) ?_
   refine ls_assign (x := x26) (by kernel_rfl) (by kernel_rfl) ?_
   refine ls_assign (x := (.bool false)) (by kernel_rfl) (by kernel_rfl) ?_
   refine ls_nil (then_normal ?_)
   refine fr_eq (b := ⟨(Ap [x0, x20, ud, ud, x26, (.bool false), x26, ud, ud, x1, x10, x0, x12, x13, x1, x0, x16, x17, x18, x19, x20, x0, x22, x23, x24, x20, x26, x0, x0, x29, x30, x31, x20, x33, x34, x35, x26] 43).toArray, []⟩) (by kernel_rfl) ?_
   refine wp_ret ?_
   refine then_ret ?_
   exact end2 (Try.results24) (by kernel_rfl) (by kernel_rfl) (by kernel_rfl) HA_1 H _ (.inr rfl)
  ·refine wp_skip ?_
   refine then_normal ?_
   refine fr_eq (b := ⟨(Ap [x0, x1, ud, ud, (.slice none 0 0), (.bool false), ud, ud, ud, x1, x10, x0, x12, x13] 66).toArray, []⟩) (by kernel_rfl) ?_
   refine wp_seq ?_
   refine wp_seq (lwp_list ?_)
   refine ls_move (x := x0) (by kernel_rfl) (by kernel_rfl) ?_
   refine ls_p (d := some 38) (by kernel_rfl) (by kernel_rfl) (p_nil (by kernel_rfl) H) (fun x38 H => ?_)
   refine ls_p (d := some 39) (by kernel_rfl) (by kernel_rfl) (p_off Try.underlying48 rfl (fun w => ⟨_, Try.sizeOf22 w⟩) rfl (by kernel_rfl) H) (fun x39 H => ?_)
   refine ls_y (d := some 40) (by kernel_rfl) (by kernel_rfl) HA (y_ld Try.isAgg22 (by kernel_rfl) H) (fun x40 H => ?_)
   refine ls_p (d := some 41) (by kernel_rfl) (by kernel_rfl) (p_len Try.underlying22 (by kernel_rfl) H) (fun x41 H => ?_)
   refine ls_p (d := some 42) (by kernel_rfl) (by kernel_rfl) (p_sEq (by kernel_rfl) (by kernel_rfl) H) (fun x42 H => ?_)
   refine ls_nil (then_normal ?_)
   refine fr_eq (b := ⟨(Aq [x0, x1, ud, ud, (.slice none 0 0), (.bool false), ud, ud, ud, x1, x10, x0, x12, x13] 23 (Ap [x0, x38, x39, x40, x41, x42] 37)).toArray, []⟩) (by kernel_rfl) ?_
   refine wp_if rfl H (fun H => ?_) (fun H => ?_)
   ·refine wp_seq (lwp_list ?_)
    refine ls_assign (x := (.slice none 0 0)) (by kernel_rfl) (by kernel_rfl) ?_
    refine ls_assign (x := (.bool false)) (by kernel_rfl) (by kernel_rfl) ?_
    refine ls_nil (then_normal ?_)
    refine fr_eq (b := ⟨(Aq [x0, x1, ud, ud, (.slice none 0 0), (.bool false), ud, ud, ud, x1, x10, x0, x12, x13] 23 (Ap [x0, x38, x39, x40, x41, x42] 37)).toArray, []⟩) (by kernel_rfl) ?_
    refine wp_ret ?_
    refine then_ret ?_
    exact end2 (Try.results24) (by kernel_rfl) (by kernel_rfl) (by kernel_rfl) HA H _ (.inr rfl)
   ·refine wp_skip ?_
    refine then_normal ?_
    refine fr_eq (b := ⟨(Aq [x0, x1, ud, ud, (.slice none 0 0), (.bool false), ud, ud, ud, x1, x10, x0, x12, x13] 23 (Ap [x0, x38, x39, x40, x41, x42] 37)).toArray, []⟩) (by kernel_rfl) ?_
    refine wp_seq (lwp_list ?_)
    refine ls_move (x := x0) (by kernel_rfl) (by kernel_rfl) ?_
    refine ls_p (d := some 44) (by kernel_rfl) (by kernel_rfl) (p_nil (by kernel_rfl) H) (fun x44 H => ?_)
    refine ls_p (d := some 45) (by kernel_rfl) (by kernel_rfl) (p_off Try.underlying48 rfl (fun w => ⟨_, Try.sizeOf22 w⟩) rfl (by kernel_rfl) H) (fun x45 H => ?_)
    refine ls_y (d := some 46) (by kernel_rfl) (by kernel_rfl) HA (y_ld Try.isAgg22 (by kernel_rfl) H) (fun x46 H => ?_)
    refine ls_p (d := some 47) (by kernel_rfl) (by kernel_rfl) (p_ixs Try.underlying22 Try.sizeOf30 (by kernel_rfl) (by kernel_rfl) H) (fun x47 H => ?_)
    refine ls_y (d := some 48) (by kernel_rfl) (by kernel_rfl) HA (y_ld Try.isAgg30 (by kernel_rfl) H) (fun x48 H => ?_)
    refine ls_fr (b := ⟨(Aq [x0, x1, ud, ud, (.slice none 0 0), (.bool false), ud, ud, ud, x1, x10, x0, x12, x13] 23 (Ap [x0, x38, x39, x40, x41, x42, x0, x44, x45, x46, x47, x48] 31)).toArray, []⟩) (by kernel_rfl) ?_
    refine ls_assign (x := x48) (by kernel_rfl) (by kernel_rfl) ?_
    refine ls_nil (then_normal ?_)
    refine fr_eq (b := ⟨(Aq [x0, x1, ud, ud, (.slice none 0 0), (.bool false), ud, x48, ud, x1, x10, x0, x12, x13] 23 (Ap [x0, x38, x39, x40, x41, x42, x0, x44, x45, x46, x47, x48] 31)).toArray, []⟩) (by kernel_rfl) ?_
    refine wp_seq (lwp_list ?_)
    refine ls_move (x := x1) (by kernel_rfl) (by kernel_rfl) ?_
    refine ls_move (x := x48) (by kernel_rfl) (by kernel_rfl) ?_
    refine ls_p (d := some 51) (by kernel_rfl) (by kernel_rfl) (p_len Try.underlying30 (by kernel_rfl) H) (fun x51 H => ?_)
    refine ls_p (d := some 52) (by kernel_rfl) (by kernel_rfl) (p_min (by kernel_rfl) (by kernel_rfl) H) (fun x52 H => ?_)
    refine ls_assign (x := x52) (by kernel_rfl) (by kernel_rfl) ?_
    refine ls_nil (then_normal ?_)
    refine fr_eq (b := ⟨(Aq [x0, x52, ud, ud, (.slice none 0 0), (.bool false), ud, x48, ud, x1, x10, x0, x12, x13] 23 (Ap [x0, x38, x39, x40, x41, x42, x0, x44, x45, x46, x47, x48, x1, x48, x51, x52] 27)).toArray, []⟩) (by kernel_rfl) ?_
    refine wp_seq (lwp_list ?_)
    refine ls_d (d := some 53) (by kernel_rfl) (by kernel_rfl) HA (d_slit (zc := #[]) Try.underlying22 Try.sizeOf30 (by decide) (.inl ⟨(by kernel_rfl), (by kernel_rfl)⟩) (by kernel_rfl) (by kernel_rfl) H) (fun x53 h_2 w_2 H HA_2 => ?_)
    refine ls_move (x := x0) (by kernel_rfl) (by kernel_rfl) ?_
    refine ls_p (d := some 55) (by kernel_rfl) (by kernel_rfl) (p_nil (by kernel_rfl) H) (fun x55 H => ?_)
    refine ls_p (d := some 56) (by kernel_rfl) (by kernel_rfl) (p_off Try.underlying48 rfl (fun w => ⟨_, Try.sizeOf22 w⟩) rfl (by kernel_rfl) H) (fun x56 H => ?_)
    refine ls_y (d := some 57) (by kernel_rfl) (by kernel_rfl) HA_2 (y_ld Try.isAgg22 (by kernel_rfl) H) (fun x57 H => ?_)
    refine ls_p (d := some 58) (by kernel_rfl) (by kernel_rfl) (p_sl Try.underlying22 Try.sizeOf30 (by kernel_rfl) (by kernel_rfl) (by kernel_rfl) H) (fun x58 H => ?_)
    refine ls_fr (b := ⟨(Aq [x0, x52, ud, ud, (.slice none 0 0), (.bool false), ud, x48, ud, x1, x10, x0, x12, x13] 23 (Ap [x0, x38, x39, x40, x41, x42, x0, x44, x45, x46, x47, x48, x1, x48, x51, x52, x53, x0, x55, x56, x57, x58] 21)).toArray, []⟩) (by kernel_rfl) ?_
    refine ls_d (d := some 59) (by kernel_rfl) (by kernel_rfl) HA_2 (d_app (z := #[.slice none 0 0]) Try.underlying22 Try.underlying22 (.inl ⟨_, rfl⟩) Try.typeInfo30 (by kernel_rfl) Try.sizeOf30 Try.zeroValue30 (by kernel_rfl) (by kernel_rfl) (by kernel_rfl) H) (fun x59 h_3 w_3 H HA_3 => ?_)
    refine ls_assign (x := x59) (by kernel_rfl) (by kernel_rfl) ?_
    refine ls_nil (then_normal ?_)
    refine fr_eq (b := ⟨(Aq [x0, x52, ud, ud, (.slice none 0 0), (.bool false), ud, x48, x59, x1, x10, x0, x12, x13] 23 (Ap [x0, x38, x39, x40, x41, x42, x0, x44, x45, x46, x47, x48, x1, x48, x51, x52, x53, x0, x55, x56, x57, x58, x59] 20)).toArray, []⟩) (by kernel_rfl) ?_
    refine wp_seq ?_
    refine wp_seq (lwp_list ?_)
    refine ls_move (x := x52) (by kernel_rfl) (by kernel_rfl) ?_
    refine ls_move (x := x48) (by kernel_rfl) (by kernel_rfl) ?_
    refine ls_p (d := some 62) (by kernel_rfl) (by kernel_rfl) (p_len Try.underlying30 (by kernel_rfl) H) (fun x62 H => ?_)
    refine ls_p (d := some 63) (by kernel_rfl) (by kernel_rfl) (p_sLt (by kernel_rfl) (by kernel_rfl) H) (fun x63 H => ?_)
    refine ls_nil (then_normal ?_)
    refine fr_eq (b := ⟨(Aq [x0, x52, ud, ud, (.slice none 0 0), (.bool false), ud, x48, x59, x1, x10, x0, x12, x13] 23 (Ap [x0, x38, x39, x40, x41, x42, x0, x44, x45, x46, x47, x48, x1, x48, x51, x52, x53, x0, x55, x56, x57, x58, x59, x52, x48, x62, x63] 16)).toArray, []⟩) (by kernel_rfl) ?_
    refine wp_join (fun a w => ∃ (D : Nat → Value) (x8 : Value) (h_4 : Heap), a = ⟨(Aq [x0, x52, ud, ud, (.slice none 0 0), (.bool false), ud, x48, x8, x1, x10, x0, x12, x13] 23 ([x0, x38, x39, x40, x41, x42, x0, x44, x45, x46, x47, x48, x1, x48, x51, x52, x53, x0, x55, x56, x57, x58, x59, x52, x48, x62, x63] ++ (Ad D 0 6 (Ap [] 10)))).toArray, []⟩ ∧ At w0 w h_4 ∧ betonyref18_Disc_Read_j1 R x0 x52 x48 x8 h_4) ?_ ?_
    ·refine wp_if rfl H (fun H => ?_) (fun H => ?_)
     ·refine lwp_list ?_
      refine ls_move (x := x48) (by kernel_rfl) (by kernel_rfl) ?_
      refine ls_move (x := x52) (by kernel_rfl) (by kernel_rfl) ?_
      refine ls_p (d := some 66) (by kernel_rfl) (by kernel_rfl) (p_sl Try.underlying30 Try.sizeOf5 (by kernel_rfl) (by kernel_rfl) (by kernel_rfl) H) (fun x66 H => ?_)
      refine ls_d (d := some 67) (by kernel_rfl) (by kernel_rfl) HA_3 (d_slit (zc := #[.slice none 0 0]) Try.underlying22 Try.sizeOf30 (by decide) (.inr ⟨by decide, _, Try.zeroValue30, (by kernel_rfl)⟩) (by kernel_rfl) (by kernel_rfl) H) (fun x67 h_6 w_6 H HA_6 => ?_)
      refine ls_move (x := x59) (by kernel_rfl) (by kernel_rfl) ?_
      refine ls_d (d := some 69) (by kernel_rfl) (by kernel_rfl) HA_6 (d_app (z := #[.slice none 0 0]) Try.underlying22 Try.underlying22 (.inl ⟨_, rfl⟩) Try.typeInfo30 (by kernel_rfl) Try.sizeOf30 Try.zeroValue30 (by kernel_rfl) (by kernel_rfl) (by kernel_rfl) H) (fun x69 h_7 w_7 H HA_7 => ?_)
      refine ls_fr (b := ⟨(Aq [x0, x52, ud, ud, (.slice none 0 0), (.bool false), ud, x48, x59, x1, x10, x0, x12, x13] 23 (Ap [x0, x38, x39, x40, x41, x42, x0, x44, x45, x46, x47, x48, x1, x48, x51, x52, x53, x0, x55, x56, x57, x58, x59, x52, x48, x62, x63, x48, x52, x66, x67, x59, x69] 10)).toArray, []⟩) (by kernel_rfl) ?_
      refine ls_assign (x := x69) (by kernel_rfl) (by kernel_rfl) ?_
      refine ls_nil ?_
      exact ⟨(fun i => ([x48, x52, x66, x67, x59, x69]).getD i ud), x69, h_7, by kernel_rfl, HA_7, H⟩
     ·refine wp_skip ?_
      exact ⟨(fun i => (Ap [] 6).getD i ud), x59, h_3, by kernel_rfl, HA_3, H⟩
    ·rintro _ w_4 ⟨D, x8, h_4, rfl, HA_4, H⟩
     unfold betonyref18_Disc_Read_j1 at H
     refine then_normal ?_
     refine fr_eq (b := ⟨(Aq [x0, x52, ud, ud, (.slice none 0 0), (.bool false), ud, x48, x8, x1, x10, x0, x12, x13] 23 ([x0, x38, x39, x40, x41, x42, x0, x44, x45, x46, x47, x48, x1, x48, x51, x52, x53, x0, x55, x56, x57, x58, x59, x52, x48, x62, x63] ++ (Ad D 0 6 (Ap [] 10)))).toArray, []⟩) (by kernel_rfl) ?_
     refine wp_seq (lwp_list ?_)
     refine ls_move (x := x0) (by kernel_rfl) (by kernel_rfl) ?_
     refine ls_move (x := x8) (by kernel_rfl) (by kernel_rfl) ?_
     refine ls_p (d := some 72) (by kernel_rfl) (by kernel_rfl) (p_nil (by kernel_rfl) H) (fun x72 H => ?_)
     refine ls_p (d := some 73) (by kernel_rfl) (by kernel_rfl) (p_off Try.underlying48 rfl (fun w => ⟨_, Try.sizeOf22 w⟩) rfl (by kernel_rfl) H) (fun x73 H => ?_)
     refine ls_d (d := none) (by kernel_rfl) (by kernel_rfl) HA_4 (d_st Try.sizeOf22 (by kernel_rfl) (by kernel_rfl) H) (fun _ h_5 w_5 H HA_5 => ?_)
     refine ls_nil (then_normal ?_)
     refine fr_eq (b := ⟨(Aq [x0, x52, ud, ud, (.slice none 0 0), (.bool false), ud, x48, x8, x1, x10, x0, x12, x13] 23 ([x0, x38, x39, x40, x41, x42, x0, x44, x45, x46, x47, x48, x1, x48, x51, x52, x53, x0, x55, x56, x57, x58, x59, x52, x48, x62, x63] ++ (Ad D 0 6 (Ap [x0, x8, x72, x73] 6)))).toArray, []⟩) (by kernel_rfl) ?_
     refine wp_seq (lwp_list ?_)
     refine ls_move (x := x48) (by kernel_rfl) (by kernel_rfl) ?_
     refine ls_move (x := x52) (by kernel_rfl) (by kernel_rfl) ?_
     refine ls_p (d := some 76) (by kernel_rfl) (by kernel_rfl) (p_sl Try.underlying30 Try.sizeOf5 (by kernel_rfl) (by kernel_rfl) (by kernel_rfl) H) (fun x76 H => ?_)
     refine ls_move (x := x48) (by kernel_rfl) (by kernel_rfl) ?_
     refine ls_p (d := some 78) (by kernel_rfl) (by kernel_rfl) (p_len Try.underlying30 (by kernel_rfl) H) (fun x78 H => ?_)
     refine ls_p (d := some 79) (by kernel_rfl) (by kernel_rfl) (p_sEq (by kernel_rfl) (by kernel_rfl) H) (fun x79 H => ?_)
     refine ls_fr (b := ⟨(Aq [x0, x52, ud, ud, (.slice none 0 0), (.bool false), ud, x48, x8, x1, x10, x0, x12, x13] 23 ([x0, x38, x39, x40, x41, x42, x0, x44, x45, x46, x47, x48, x1, x48, x51, x52, x53, x0, x55, x56, x57, x58, x59, x52, x48, x62, x63] ++ (Ad D 0 6 [x0, x8, x72, x73, x48, x52, x76, x48, x78, x79]))).toArray, []⟩) (by kernel_rfl) ?_
     refine ls_assign (x := x76) (by kernel_rfl) (by kernel_rfl) ?_
     refine ls_assign (x := x79) (by kernel_rfl) (by kernel_rfl) ?_
     refine ls_nil (then_normal ?_)
     refine fr_eq (b := ⟨(Aq [x0, x52, ud, ud, x76, x79, ud, x48, x8, x1, x10, x0, x12, x13] 23 ([x0, x38, x39, x40, x41, x42, x0, x44, x45, x46, x47, x48, x1, x48, x51, x52, x53, x0, x55, x56, x57, x58, x59, x52, x48, x62, x63] ++ (Ad D 0 6 [x0, x8, x72, x73, x48, x52, x76, x48, x78, x79]))).toArray, []⟩) (by kernel_rfl) ?_
     refine wp_ret ?_
     exact end2 (Try.results24) (by kernel_rfl) (by kernel_rfl) (by kernel_rfl) HA_5 H _ (.inr rfl)

end Go.Proofs.Ytlcklnbgknhhkaa

end

section
/- The shallow reading of one function, and that the function does it. Written by a program. -/
set_option linter.unusedVariables false
namespace Go.Proofs.Ytlcklnbgknhhkaa
open Go Go.HW

def betonyref18_Disc_Set_j1 (R : Value → Heap → Prop) (x0 x5 : Value) (h_8 : Heap) : Prop :=
  sNil x0 fun x34 =>
  sOff x34 17 fun x35 =>
  sSt h_8 x35 x5 fun h_9 => 
  R unit h_9
def betonyref18_Disc_Set_S (x0 x1 : Value) (h : Heap) (R : Value → Heap → Prop) : Prop :=
  sBox h x1 28 fun x3 h => 
  betonyref18_Disc_local_c x0 (.int .i64 1) h fun x7 h_1 => 
  sLdN h_1 x3 17 fun x9 =>
  sNil x0 fun x10 =>
  sOff x10 0 fun x11 =>
  sStN h_1 x11 x9 17 fun h_2 => 
  betonyref18_Disc_local_c x0 (.int .i64 1) h_2 fun x14 h_3 => 
  sEqlB x7 x14 fun x15 =>
  sIf x15 (R unit h_3) (betonyref18_Disc_All_c x0 h_3 fun x17 h_4 => 
  betonyref18_Disc_Flush_c x0 h_4 fun x19 h_5 => 
  betonyref18_Disc_local_c x0 (.int .i64 1) h_5 fun x21 h_6 => 
  sNot x21 fun x22 =>
  sIf x22 (sNil x0 fun x25 =>
  sOff x25 19 fun x26 =>
  sSt h_6 x26 x17 fun h_7 => 
  R unit h_7) (sLen x17 fun x28 =>
  sGt x28 (.int .i64 254) fun x29 =>
  sIf x29 (sSl x17 none (some (.int .i64 254)) 1 fun x31 =>
  betonyref18_Disc_Set_j1 R x0 x31 h_6) (betonyref18_Disc_Set_j1 R x0 x17 h_6)))
set_option maxRecDepth 100000 in
theorem betonyref18_Disc_Set_runs {x0 x1 : Value} {h : Heap} {R : Value → Heap → Prop} (H : betonyref18_Disc_Set_S x0 x1 h R) : betonyref18_Disc_Set_c x0 x1 h R := by
 unfold betonyref18_Disc_Set_S at H
 refine runs_of (b := ⟨#[x0, x1, ud, ud, ud, ud, ud, ud, ud, ud, ud, ud, ud, ud, ud, ud, ud, ud, ud, ud, ud, ud, ud, ud, ud, ud, ud, ud, ud, ud, ud, ud, ud, ud, ud, ud], []⟩) Try.call26 Try.func26 rfl (by kernel_rfl) (fun w0 HA => ?_)
 refine wp_seq (lwp_list ?_)
 refine ls_d (d := some 3) (by kernel_rfl) (by kernel_rfl) HA (d_box (by kernel_rfl) H) (fun x3 h w H HA => ?_)
 refine ls_nil (then_normal ?_)
 refine fr_eq (b := ⟨#[x0, x1, ud, x3, ud, ud, ud, ud, ud, ud, ud, ud, ud, ud, ud, ud, ud, ud, ud, ud, ud, ud, ud, ud, ud, ud, ud, ud, ud, ud, ud, ud, ud, ud, ud, ud], []⟩) (by kernel_rfl) ?_
 refine wp_seq (lwp_list ?_)
 refine ls_move (x := x0) (by kernel_rfl) (by kernel_rfl) ?_
 refine ls_d (d := some 7) (by kernel_rfl) (by kernel_rfl) HA (d_call (by kernel_rfl) (by kernel_rfl) H) (fun x7 h_1 w_1 H HA_1 => ?_)
 refine ls_assign (x := x7) (by kernel_rfl) (by kernel_rfl) ?_
 refine ls_nil (then_normal ?_)
 refine fr_eq (b := ⟨#[x0, x1, ud, x3, x7, ud, x0, x7, ud, ud, ud, ud, ud, ud, ud, ud, ud, ud, ud, ud, ud, ud, ud, ud, ud, ud, ud, ud, ud, ud, ud, ud, ud, ud, ud, ud], []⟩) (by kernel_rfl) ?_
 refine wp_seq (lwp_list ?_)
 refine ls_move (x := x0) (by kernel_rfl) (by kernel_rfl) ?_
 refine ls_y (d := some 9) (by kernel_rfl) (by kernel_rfl) HA_1 (y_ldn Try.isAgg28 Try.sizeOf28 (by kernel_rfl) H) (fun x9 H => ?_)
 refine ls_p (d := some 10) (by kernel_rfl) (by kernel_rfl) (p_nil (by kernel_rfl) H) (fun x10 H => ?_)
 refine ls_p (d := some 11) (by kernel_rfl) (by kernel_rfl) (p_off Try.underlying48 rfl (fun w => ⟨_, Try.sizeOf28 w⟩) rfl (by kernel_rfl) H) (fun x11 H => ?_)
 refine ls_d (d := none) (by kernel_rfl) (by kernel_rfl) HA_1 (d_stn Try.sizeOf28 (by kernel_rfl) (by kernel_rfl) H) (fun _ h_2 w_2 H HA_2 => ?_)
 refine ls_nil (then_normal ?_)
 refine fr_eq (b := ⟨#[x0, x1, ud, x3, x7, ud, x0, x7, x0, x9, x10, x11, ud, ud, ud, ud, ud, ud, ud, ud, ud, ud, ud, ud, ud, ud, ud, ud, ud, ud, ud, ud, ud, ud, ud, ud], []⟩) (by kernel_rfl) ?_
 refine wp_seq ?_
 refine wp_seq (lwp_list ?_)
 refine ls_move (x := x7) (by kernel_rfl) (by kernel_rfl) ?_
 refine ls_move (x := x0) (by kernel_rfl) (by kernel_rfl) ?_
 refine ls_d (d := some 14) (by kernel_rfl) (by kernel_rfl) HA_2 (d_call (by kernel_rfl) (by kernel_rfl) H) (fun x14 h_3 w_3 H HA_3 => ?_)
 refine ls_p (d := some 15) (by kernel_rfl) (by kernel_rfl) (p_eqlB Try.underlying4 (by kernel_rfl) (by kernel_rfl) H) (fun x15 H => ?_)
 refine ls_nil (then_normal ?_)
 refine fr_eq (b := ⟨#[x0, x1, ud, x3, x7, ud, x0, x7, x0, x9, x10, x11, x7, x0, x14, x15, ud, ud, ud, ud, ud, ud, ud, ud, ud, ud, ud, ud, ud, ud, ud, ud, ud, ud, ud, ud], []⟩) (by kernel_rfl) ?_
 refine wp_if rfl H (fun H => ?_) (fun H => ?_)
 ·refine wp_ret ?_
  refine then_ret ?_
  exact end0 (Try.results26) (by kernel_rfl) HA_3 H _ (.inr rfl)
 ·refine wp_skip ?_
  refine then_normal ?_
  refine fr_eq (b := ⟨#[x0, x1, ud, x3, x7, ud, x0, x7, x0, x9, x10, x11, x7, x0, x14, x15, ud, ud, ud, ud, ud, ud, ud, ud, ud, ud, ud, ud, ud, ud, ud, ud, ud, ud, ud, ud], []⟩) (by kernel_rfl) ?_
  refine wp_seq (lwp_list ?_)
  refine ls_move (x := x0) (by kernel_rfl) (by kernel_rfl) ?_
  refine ls_d (d := some 17) (by kernel_rfl) (by kernel_rfl) HA_3 (d_call (by kernel_rfl) (by kernel_rfl) H) (fun x17 h_4 w_4 H HA_4 => ?_)
  refine ls_assign (x := x17) (by kernel_rfl) (by kernel_rfl) ?_
  refine ls_nil (then_normal ?_)
  refine fr_eq (b := ⟨#[x0, x1, ud, x3, x7, x17, x0, x7, x0, x9, x10, x11, x7, x0, x14, x15, x0, x17, ud, ud, ud, ud, ud, ud, ud, ud, ud, ud, ud, ud, ud, ud, ud, ud, ud, ud], []⟩) (by kernel_rfl) ?_
  refine wp_seq (lwp_list ?_)
  refine ls_move (x := x0) (by kernel_rfl) (by kernel_rfl) ?_
  refine ls_d (d := some 19) (by kernel_rfl) (by kernel_rfl) HA_4 (d_call (by kernel_rfl) (by kernel_rfl) H) (fun x19 h_5 w_5 H HA_5 => ?_)
  refine ls_nil (then_normal ?_)
  refine fr_eq (b := ⟨#[x0, x1, ud, x3, x7, x17, x0, x7, x0, x9, x10, x11, x7, x0, x14, x15, x0, x17, x0, x19, ud, ud, ud, ud, ud, ud, ud, ud, ud, ud, ud, ud, ud, ud, ud, ud], []⟩) (by kernel_rfl) ?_
  refine wp_seq ?_
  refine wp_seq (lwp_list ?_)
  refine ls_move (x := x0) (by kernel_rfl) (by kernel_rfl) ?_
  refine ls_d (d := some 21) (by kernel_rfl) (by kernel_rfl) HA_5 (d_call (by kernel_rfl) (by kernel_rfl) H) (fun x21 h_6 w_6 H HA_6 => ?_)
  refine ls_p (d := some 22) (by kernel_rfl) (by kernel_rfl) (p_not (by kernel_rfl) H) (fun x22 H => ?_)
  refine ls_nil (then_normal ?_)
  refine fr_eq (b := ⟨#[x0, x1, ud, x3, x7, x17, x0, x7, x0, x9, x10, x11, x7, x0, x14, x15, x0, x17, x0, x19, x0, x21, x22, ud, ud, ud, ud, ud, ud, ud, ud, ud, ud, ud, ud, ud], []⟩) (by kernel_rfl) ?_
  refine wp_if rfl H (fun H => ?_) (fun H => ?_)
  ·refine wp_seq (lwp_list ?_)
   refine ls_move (x := x0) (by kernel_rfl) (by kernel_rfl) ?_
   refine ls_move (x := x17) (by kernel_rfl) (by kernel_rfl) ?_
   refine ls_p (d := some 25) (by kernel_rfl) (by kernel_rfl) (p_nil (by kernel_rfl) H) (fun x25 H => ?_)
   refine ls_p (d := some 26) (by kernel_rfl) (by kernel_rfl) (p_off Try.underlying48 rfl (fun w => ⟨_, Try.sizeOf30 w⟩) rfl (by kernel_rfl) H) (fun x26 H => ?_)
   refine ls_d (d := none) (by kernel_rfl) (by kernel_rfl) HA_6 (d_st Try.sizeOf30 (by kernel_rfl) (by kernel_rfl) H) (fun _ h_7 w_7 H HA_7 => ?_)
   refine ls_nil (then_normal ?_)
   refine fr_eq (b := ⟨#[x0, x1, ud, x3, x7, x17, x0, x7, x0, x9, x10, x11, x7, x0, x14, x15, x0, x17, x0, x19, x0, x21, x22, x0, x17, x25, x26, ud, ud, ud, ud, ud, ud, ud, ud, ud], []⟩) (by kernel_rfl) ?_
   refine wp_ret ?_
   refine then_ret ?_
   exact end0 (Try.results26) (by kernel_rfl) HA_7 H _ (.inr rfl)
  ·refine wp_skip ?_
   refine then_normal ?_
   refine fr_eq (b := ⟨#[x0, x1, ud, x3, x7, x17, x0, x7, x0, x9, x10, x11, x7, x0, x14, x15, x0, x17, x0, x19, x0, x21, x22, ud, ud, ud, ud, ud, ud, ud, ud, ud, ud, ud, ud, ud], []⟩) (by kernel_rfl) ?_
   refine wp_seq ?_
   refine wp_seq (lwp_list ?_)
   refine ls_move (x := x17) (by kernel_rfl) (by kernel_rfl) ?_
   refine ls_p (d := some 28) (by kernel_rfl) (by kernel_rfl) (p_len Try.underlying30 (by kernel_rfl) H) (fun x28 H => ?_)
   refine ls_p (d := some 29) (by kernel_rfl) (by kernel_rfl) (p_sGt (by kernel_rfl) (by kernel_rfl) H) (fun x29 H => ?_)
   refine ls_nil (then_normal ?_)
   refine fr_eq (b := ⟨#[x0, x1, ud, x3, x7, x17, x0, x7, x0, x9, x10, x11, x7, x0, x14, x15, x0, x17, x0, x19, x0, x21, x22, ud, ud, ud, ud, x17, x28, x29, ud, ud, ud, ud, ud, ud], []⟩) (by kernel_rfl) ?_
   refine wp_join (fun a w => ∃ (D : Nat → Value) (x5 : Value) (h_8 : Heap), a = ⟨#[x0, x1, ud, x3, x7, x5, x0, x7, x0, x9, x10, x11, x7, x0, x14, x15, x0, x17, x0, x19, x0, x21, x22, ud, ud, ud, ud, x17, x28, x29, (D 0), (D 1), ud, ud, ud, ud], []⟩ ∧ At w0 w h_8 ∧ betonyref18_Disc_Set_j1 R x0 x5 h_8) ?_ ?_
   ·refine wp_if rfl H (fun H => ?_) (fun H => ?_)
    ·refine lwp_list ?_
     refine ls_move (x := x17) (by kernel_rfl) (by kernel_rfl) ?_
     refine ls_p (d := some 31) (by kernel_rfl) (by kernel_rfl) (p_sl Try.underlying30 Try.sizeOf5 (by kernel_rfl) (by kernel_rfl) (by kernel_rfl) H) (fun x31 H => ?_)
     refine ls_assign (x := x31) (by kernel_rfl) (by kernel_rfl) ?_
     refine ls_nil ?_
     exact ⟨(fun i => ([x17, x31]).getD i ud), x31, h_6, by kernel_rfl, HA_6, H⟩
    ·refine wp_skip ?_
     exact ⟨(fun i => ([ud, ud]).getD i ud), x17, h_6, by kernel_rfl, HA_6, H⟩
   ·rintro _ w_8 ⟨D, x5, h_8, rfl, HA_8, H⟩
    unfold betonyref18_Disc_Set_j1 at H
    refine then_normal ?_
    refine fr_eq (b := ⟨#[x0, x1, ud, x3, x7, x5, x0, x7, x0, x9, x10, x11, x7, x0, x14, x15, x0, x17, x0, x19, x0, x21, x22, ud, ud, ud, ud, x17, x28, x29, (D 0), (D 1), ud, ud, ud, ud], []⟩) (by kernel_rfl) ?_
    refine lwp_list ?_
    refine ls_move (x := x0) (by kernel_rfl) (by kernel_rfl) ?_
    refine ls_move (x := x5) (by kernel_rfl) (by kernel_rfl) ?_
    refine ls_p (d := some 34) (by kernel_rfl) (by kernel_rfl) (p_nil (by kernel_rfl) H) (fun x34 H => ?_)
    refine ls_p (d := some 35) (by kernel_rfl) (by kernel_rfl) (p_off Try.underlying48 rfl (fun w => ⟨_, Try.sizeOf30 w⟩) rfl (by kernel_rfl) H) (fun x35 H => ?_)
    refine ls_d (d := none) (by kernel_rfl) (by kernel_rfl) HA_8 (d_st Try.sizeOf30 (by kernel_rfl) (by kernel_rfl) H) (fun _ h_9 w_9 H HA_9 => ?_)
    refine ls_nil ?_
    exact end0 (Try.results26) (by kernel_rfl) HA_9 H _ (.inl rfl)

end Go.Proofs.Ytlcklnbgknhhkaa

end

section
/- The document's discipline: what is read; another setting. -/
set_option linter.unusedSimpArgs false
set_option linter.unusedVariables false
namespace Go.Proofs.Ytlcklnbgknhhkaa
open Go Go.HW

def D.set (d : D) (t : Tm) : D :=
  if d.loc 1 = hasB t.l 1 then { d with t := t }
  else if hasB t.l 1 = true then { d with t := t, ln := (allL d).take 254, ls := [], ra := [] }
  else { d with t := t, ln := [], ls := [], ra := allL d }
section
variable {h0 h : Heap} {F : List HP} {R : Value → Heap → Prop} {k : Nat} {d : D} {E : List (Value × List Int)}
theorem xRead {n : Int} (s : HW.Sep h0 (Xc k d E :: F) h) (hb : d.wt ≤ 300000000) (H : ∀ v h', HW.Sep h0 (Xc k (d.read n).1 ((v, (d.read n).2.1) :: E) :: F) h' → R (.tuple #[v, .bool (d.read n).2.2]) h') : betonyref18_Disc_Read_c (ptr k 0) (.int .i64 n) h R := by
  apply betonyref18_Disc_Read_runs
  unfold betonyref18_Disc_Read_S
  have wts := hb
  unfold D.wt at wts
  have empty : ∀ {d' : D} {h'}, HW.Sep h0 (Xc k d' E :: F) h' → HW.Sep h0 (Xc k d' ((.slice none 0 0, []) :: E) :: F) h' := fun s => by
    obtain ⟨lv, sv, rv, ev, rs, e, so⟩ := Xopen s
    exact Xshut e (frz_nilv so.b2).p2 (by intro x hx; simp only [List.mem_append, List.mem_cons] at hx ⊢; grind)
  unfold D.read at H
  rw [ev_lt, ev_if]
  by_cases h1 : n < 1
  · rw [if_pos h1] at H
    rw [if_pos (decide_eq_true h1)]
    exact H _ h (empty s)
  rw [if_neg h1] at H
  rw [if_neg (by simpa using h1)]
  refine xlocal s ?_
  rw [ev_not, ev_if]
  obtain ⟨lv, sv, rv, ev, rs, e, so⟩ := Xopen s
  by_cases h2 : (!d.loc 1) = true
  · rw [if_pos h2] at H ⊢
    have q : Seq (encI .u8) 1 h rv d.ra := frz_seq so.b2 (by simp [frL])
    have f19 : ∀ {K : Value → Prop}, sLd h (ptr k 19) K = K rv := so.ld rfl
    have l19 : ∀ {K : Value → Prop}, sLen rv K = K (.int .i64 d.ra.length) := fun {K} => q.len
    simp only [ev_nil, ev_off, Nat.zero_add, f19, l19]
    rw [ev_min, min_cast (by omega)]
    generalize hm : min n.toNat d.ra.length = m at H
    have hml : m ≤ d.ra.length := by omega
    refine q.slK (i := 0) (j := m) (by omega) hml rfl ⟨.i64, rfl⟩ ?_
    refine q.slK (i := m) (j := d.ra.length) hml (Nat.le_refl _) ⟨.i64, rfl⟩ rfl ?_
    refine so.st (Nat.le_of_ble_eq_true rfl) (seq_cell (q.cutP (i := m) (j := d.ra.length) hml (Nat.le_refl _))) (fun h3 s3 => ?_)
    have s4 := frz_cut (i := 0) (j := m) s3.b2 (v := rv) (l := d.ra) (by simp [frL]) (by omega) hml
    have s5 := frz_cut (i := m) (j := d.ra.length) s4 (v := rv) (l := d.ra) (by simp [frL]) hml (Nat.le_refl _)
    rw [List.drop_zero, List.take_length] at s5
    refine H _ h3 (Xshut (d := { d with ra := d.ra.drop m }) (lv := lv) (sv := sv) (rv := HW.cutP rv m d.ra.length 1) (ev := ev) (rs := rs) e s5.p2 ?_)
    intro x hx
    simp only [frL, List.cons_append, List.mem_cons, List.mem_append] at hx ⊢
    grind
  rw [if_neg h2] at H ⊢
  have qs := so.b1.seq
  have f18 : ∀ {K : Value → Prop}, sLd h (ptr k 18) K = K sv := so.ld rfl
  have lrs : rs.length = d.ls.length := by rw [← e, List.length_map]
  have l18 : ∀ {K : Value → Prop}, sLen sv K = K (.int .i64 d.ls.length) := fun {K} => by rw [qs.len, List.length_map, lrs]
  simp only [ev_nil, ev_off, Nat.zero_add, f18, l18]
  rw [ev_eq, ev_if]
  cases hrs : rs with
  | nil =>
    rw [hrs] at e
    have els : d.ls = [] := e.symm
    rw [els] at H ⊢
    rw [if_pos (by decide)]
    exact H _ h (empty s)
  | cons p rs' =>
    rw [hrs] at e so lrs
    have els : d.ls = p.2 :: rs'.map (·.2) := e.symm
    rw [if_neg (by rw [els]; simp; omega)]
    have hp1 : ((p :: rs').map (·.1))[0]? = some p.1 := rfl
    rw [hrs] at qs
    have r0 : ∀ {K : Value → Prop}, sIxS sv (.int .i64 0) 1 (fun x => sLd h x K) = K p.1.1 := fun {K} => Seq.ld qs hp1 rfl .i64
    rw [r0]
    have qp : Seq (encI .u8) 1 h p.1.1 p.2 := frz_seq so.b2 (by simp [frL, frR])
    have lp : ∀ {K : Value → Prop}, sLen p.1.1 K = K (.int .i64 p.2.length) := fun {K} => qp.len
    have hpl : p.2.length ≤ sumL d.ls := by rw [els]; unfold sumL; simp
    rw [lp, ev_min, min_cast (by omega)]
    rw [els] at H
    simp only at H
    generalize hm : min n.toNat p.2.length = m at H
    have hml : m ≤ p.2.length := by omega
    refine so.slit (enc := encCV) (sz := 1) encCV_len [] rfl rfl (fun v1 h3 cv1 s3 => ?_)
    have f18' : ∀ {K : Value → Prop}, sLd h3 (ptr k 18) K = K sv := s3.b1.ld rfl
    rw [f18']
    have qs3 := s3.b2.seq
    refine qs3.slK (i := 1) (j := ((p :: rs').map (fun q : CV × List Int => q.1)).length) (by simp) (Nat.le_refl _) ⟨.i64, rfl⟩ rfl ?_
    have qc := qs3.cutP (i := 1) (j := ((p :: rs').map (fun q : CV × List Int => q.1)).length) (by simp) (Nat.le_refl _)
    rw [List.take_length, List.map_cons, List.drop_one, List.tail_cons] at qc
    have lr' : rs'.length + 1 = d.ls.length := by rw [← lrs]; rfl
    refine s3.app (enc := encCV) (sz := 1) rfl (by decide) encCV_len encCV_cell qc (by simp only [List.length_map, List.length_nil]; omega) (by decide) (fun v2 h4 cv2 s4 => ?_)
    rw [List.nil_append] at s4
    rw [lp, ev_lt, ev_if]
    have fin : ∀ {v8 : Value} {h5 : Heap} {rs2 : List (CV × List Int)} {L : List (Value × List Int)}, Cell1 v8 → HW.Sep h0 (Blk k (dC d lv sv rv ev) 48 :: Sl encCV 1 v8 (rs2.map (·.1)) :: frz L :: F) h5 → rs2.map (·.2) = (if m = p.2.length then rs'.map (·.2) else p.2.drop m :: rs'.map (·.2)) → (∀ x ∈ frL d lv rv ev rs2 ++ E, x ∈ L) → (p.1.1, p.2) ∈ L → betonyref18_Disc_Read_j1 R (ptr k 0) (.int .i64 m) p.1.1 v8 h5 := by
      intro v8 h5 rs2 L c8 s5 e2 hL hp
      unfold betonyref18_Disc_Read_j1
      have qp5 : Seq (encI .u8) 1 h5 p.1.1 p.2 := frz_seq s5.b2 hp
      rw [ev_nil, ev_off, Nat.zero_add]
      refine s5.st (Nat.le_of_ble_eq_true rfl) c8 (fun h6 s6 => ?_)
      refine qp5.slK (i := 0) (j := m) (by omega) hml rfl ⟨.i64, rfl⟩ ?_
      have s7 := frz_cut (i := 0) (j := m) s6.b2 (v := p.1.1) (l := p.2) hp (by omega) hml
      rw [List.drop_zero] at s7
      rw [lp, ev_eq]
      have hie : ((p.2.length : Int) == 0) = p.2.isEmpty := by cases p.2 <;> simp; omega
      rw [hie]
      refine H _ h6 (Xshut (d := { d with ls := (if m = p.2.length then rs'.map (·.2) else p.2.drop m :: rs'.map (·.2)) }) (lv := lv) (sv := v8) (rv := rv) (ev := ev) (rs := rs2) e2 s7.p2 ?_)
      intro x hx
      have := hL x
      simp only [frL, List.cons_append, List.mem_cons, List.mem_append] at hx this ⊢
      grind
    have c2 : Cell1 v2 := s4.cell
    by_cases hlt : m < p.2.length
    · rw [if_pos (decide_eq_true (by omega))]
      refine (frz_seq s4.b3 (v := p.1.1) (l := p.2) (by simp [frL, frR])).slK (i := m) (j := p.2.length) hml (Nat.le_refl _) ⟨.i64, rfl⟩ rfl ?_
      have q4 : Seq (encI .u8) 1 h4 p.1.1 p.2 := frz_seq s4.b3 (by simp [frL, frR])
      have q5 := q4.cutP (i := m) (j := p.2.length) hml (Nat.le_refl _)
      have c5 := seq_cell q5
      have s5 := frz_cut (i := m) (j := p.2.length) s4.b3 (v := p.1.1) (l := p.2) (by simp [frL, frR]) hml (Nat.le_refl _)
      rw [List.take_length] at s5 q5
      generalize HW.cutP p.1.1 m p.2.length 1 = w at s5 q5 c5
      obtain ⟨wa, wn, wm, rfl, _⟩ := q5
      refine s5.slit (enc := encCV) (sz := 1) encCV_len [⟨.slice wa wn wm, c5⟩] rfl ⟨rfl, Nat.le_of_ble_eq_true rfl, rfl⟩ (fun v6 h6 cv6 s6 => ?_)
      refine s6.app (enc := encCV) (sz := 1) rfl (by decide) encCV_len encCV_cell s6.b2.seq (by simp only [List.length_map, List.length_cons, List.length_nil]; omega) (by decide) (fun v7 h7 cv7 s7 => ?_)
      have s8 : HW.Sep h0 (Blk k (dC d lv sv rv ev) 48 :: Sl encCV 1 v7 (((((⟨.slice wa wn wm, c5⟩ : CV), p.2.drop m) :: rs')).map (·.1)) :: frz ((.slice wa wn wm, p.2.drop m) :: (frL d lv rv ev (p :: rs') ++ E)) :: F) h7 := by
        exact s7.b4.tail.b2.tail.b2
      refine fin cv7 s8 (by rw [if_neg (by omega)]; rfl) ?_ (by simp [frL, frR])
      intro x hx
      simp only [frL, frR, List.map_cons, List.cons_append, List.mem_cons, List.mem_append] at hx ⊢
      grind
    · rw [if_neg (by simpa using hlt)]
      have s8 : HW.Sep h0 (Blk k (dC d lv sv rv ev) 48 :: Sl encCV 1 v2 (rs'.map (·.1)) :: frz (frL d lv rv ev (p :: rs') ++ E) :: F) h4 := by
        exact s4.b2.tail.b1
      refine fin c2 s8 (by rw [if_pos (by omega)]) ?_ (by simp [frL, frR])
      intro x hx
      simp only [frL, frR, List.map_cons, List.cons_append, List.mem_cons, List.mem_append] at hx ⊢
      grind
theorem putRow_part (ys zs xs : List Value) (hl : ys.length = xs.length) : putRow (ys ++ zs).toArray 0 xs = (xs ++ zs).toArray := by
  apply Array.ext_getElem?
  intro i
  by_cases hi : i < xs.length
  · have := get_putRow xs (ys ++ zs).toArray 0 i hi (by simp; omega)
    rw [Nat.zero_add] at this
    rw [this, List.getElem?_toArray, List.getElem?_append_left hi]
  · rw [get_putRow_ge _ _ _ _ (by omega), List.getElem?_toArray, List.getElem?_toArray, List.getElem?_append_right (by omega), List.getElem?_append_right (by omega), hl]
theorem set_cells {lv sv rv ev : Value} {t : Tm} : putRow (dC d lv sv rv ev) 0 t.c.toList = dC { d with t := t } lv sv rv ev := putRow_part d.t.e [lv, sv, rv, .bool d.st, .bool d.nx, ev] t.e rfl
theorem allL_t (t : Tm) : allL { d with t := t } = allL d := rfl
theorem xSet {t : Tm} (s : HW.Sep h0 (Xc k d E :: F) h) (hb : d.wt ≤ 300000000) (H : ∀ h', HW.Sep h0 (Xc k (d.set t) E :: F) h' → R unit h') : betonyref18_Disc_Set_c (ptr k 0) t.v h R := by
  apply betonyref18_Disc_Set_runs
  unfold betonyref18_Disc_Set_S
  refine s.box (c := t.c) rfl (fun k1 h1 s1 => ?_)
  refine xlocal s1.b1 ?_
  rw [s1.ldall (n := 17) rfl, ev_nil, ev_off, Nat.zero_add]
  obtain ⟨lv, sv, rv, ev, rs, e, so⟩ := Xopen s1.tail
  refine so.stn (cs := t.c) rfl (by show 17 ≤ _; exact Nat.le_of_ble_eq_true rfl) t.cell1 (fun h2 s2 => ?_)
  rw [set_cells] at s2
  have s3 : HW.Sep h0 (Xc k { d with t := t } E :: F) h2 := Xshut (d := { d with t := t }) (rs := rs) e s2 (fun x hx => hx)
  have w3 : ({ d with t := t } : D).wt ≤ 300000000 := hb
  refine xlocal s3 ?_
  rw [show ({ d with t := t } : D).loc 1 = hasB t.l 1 from rfl, ev_eqlB, ev_if]
  unfold D.set at H
  by_cases hq : d.loc 1 = hasB t.l 1
  · rw [if_pos hq] at H
    rw [if_pos (by rw [hq]; simp)]
    exact H h2 s3
  rw [if_neg hq] at H
  rw [if_neg (by simpa using hq)]
  refine xAll s3 (by omega) (fun v h4 s4 => ?_)
  rw [allL_t] at s4
  have s5 : HW.Sep h0 (Sl (encI .u8) 1 v (allL d) :: Xc k { d with t := t } E :: F) h4 := s3.add1 s4
  refine xflush s5.b1 (fun h5 s6 => ?_)
  refine xlocal s6 ?_
  rw [show ({ d with t := t } : D).flush.loc 1 = hasB t.l 1 from rfl, ev_not, ev_if]
  have q6 : Seq (encI .u8) 1 h5 v (allL d) := s6.b1.seq
  have cl : Cell1 v := seq_cell q6
  cases ht : hasB t.l 1 with
  | false =>
    rw [ht, if_neg (by decide)] at H
    rw [if_pos (by decide), ev_nil, ev_off, Nat.zero_add]
    obtain ⟨lv, sv, rv, ev, rs, e, so⟩ := Xopen s6
    refine so.st (Nat.le_of_ble_eq_true rfl) cl (fun h6 s7 => ?_)
    have s8 : HW.Sep h0 (frz (frL ({ d with t := t } : D).flush lv rv ev rs ++ E) :: Sl (encI .u8) 1 v (allL d) :: Blk k (dC { d with t := t, ln := [], ls := [], ra := allL d } lv sv v ev) 48 :: Sl encCV 1 sv (rs.map (·.1)) :: F) h6 := selF (L := [_, _, _, _]) s7 [2, 3, 0, 1] rfl (by decide)
    exact H h6 (Xshut (d := { d with t := t, ln := [], ls := [], ra := allL d }) (rs := rs) e (frz_add s8).p2 (by intro x hx; simp only [frL, D.flush, List.cons_append, List.mem_cons] at hx ⊢; grind))
  | true =>
    rw [ht, if_pos rfl] at H
    rw [if_neg (by decide)]
    have al := allL_len d
    have hr : (allL d).length ≤ 1073741000 := by
      have := hb
      unfold D.wt at this
      unfold D.readyN at al
      omega
    have fin : ∀ v' h', HW.Sep h0 (Sl (encI .u8) 1 v' ((allL d).take 254) :: Xc k ({ d with t := t } : D).flush E :: F) h' → betonyref18_Disc_Set_j1 R (ptr k 0) v' h' := by
      intro v' h' s'
      unfold betonyref18_Disc_Set_j1
      have cl' : Cell1 v' := s'.cell
      obtain ⟨lv, sv, rv, ev, rs, e, so⟩ := Xopen s'.b1
      rw [ev_nil, ev_off, Nat.zero_add]
      refine so.st (Nat.le_of_ble_eq_true rfl) cl' (fun h6 s7 => ?_)
      have s8 : HW.Sep h0 (frz (frL ({ d with t := t } : D).flush lv rv ev rs ++ E) :: Sl (encI .u8) 1 v' ((allL d).take 254) :: Blk k (dC { d with t := t, ln := (allL d).take 254, ls := [], ra := [] } v' sv rv ev) 48 :: Sl encCV 1 sv (rs.map (·.1)) :: F) h6 := selF (L := [_, _, _, _]) s7 [2, 3, 0, 1] rfl (by decide)
      exact H h6 (Xshut (d := { d with t := t, ln := (allL d).take 254, ls := [], ra := [] }) (rs := rs) e (frz_add s8).p2 (by intro x hx; simp only [frL, D.flush, List.cons_append, List.mem_cons] at hx ⊢; grind))
    rw [q6.len, ev_gt, ev_if]
    by_cases hg : (allL d).length > 254
    · rw [if_pos (decide_eq_true (by omega))]
      refine q6.slK (i := 0) (j := 254) (by omega) (by omega) rfl ⟨.i64, rfl⟩ ?_
      exact fin _ h5 (s6.b1.cutr (j := 254) (by omega))
    · rw [if_neg (by simp; omega)]
      refine fin _ h5 ?_
      rw [List.take_of_length_le (by omega)]
      exact s6.b1
end
end Go.Proofs.Ytlcklnbgknhhkaa

end

section
/- The builtin cap. -/
namespace Go.HW
open Go

def sCap (x : Value) (K : Value → Prop) : Prop := ∃ a n c, x = .slice a n c ∧ K (.int .i64 (c : Nat))
section
variable {P : Program} {ρ : Operand → Value}
variable {dst : Option Tmp} {tp : TypeId} {pos : String} {after : Array Edge} {g : Option (Nat × Bool)}
theorem p_cap {X : Operand} {x : Value} {t e : TypeId} {K : Value → Prop} (ht : P.underlying t = some (.slice e)) (hx : ρ X = x) (H : sCap x K) : ∃ v, PY P ρ ⟨dst, .call ⟨.builtin .cap, #[X], #[t]⟩, tp, pos, after, g⟩ v ∧ K v := by
  obtain ⟨a, n, c, rfl, hk⟩ := H
  exact ⟨_, fun w => by simp [hx, go_sem, Builtin.cap_, underlying, ht, goInt], hk⟩
end
theorem ev_cap {x : Option Addr} {m c : Nat} {K : Value → Prop} : sCap (.slice x m c) K = K (.int .i64 c) :=
  propext ⟨fun ⟨_, _, _, e, k⟩ => by cases e; exact k, fun k => ⟨_, _, _, rfl, k⟩⟩
end Go.HW

end
