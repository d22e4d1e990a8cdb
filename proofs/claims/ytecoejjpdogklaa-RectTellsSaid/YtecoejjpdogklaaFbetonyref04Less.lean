/- The shallow reading of one function, and that the function does it. Written by a program. -/
import Derived.Test.YtecoejjpdogklaaFnC
set_option linter.unusedVariables false
namespace Go.Proofs.Ytecoejjpdogklaa
open Go Go.HW

def betonyref04_Less_S (x0 x1 : Value) (h : Heap) (R : Value → Heap → Prop) : Prop :=
  sBox h x0 35 fun x2 h => 
  sBox h x1 35 fun x3 h_1 => 
  sLdN h_1 x2 4 fun x7 =>
  betonyref04_Right_c x7 h_1 fun x8 h_2 => 
  sNot x8 fun x9 =>
  sOrH x9 h_2 (fun k_2 =>
  sLdN h_2 x3 4 fun x11 =>
  betonyref04_Right_c x11 h_2 fun x12 h_13 => 
  sNot x12 fun x13 =>
  k_2 x13 h_13) fun x14 h_3 =>
  sOr x14 (fun k_1 =>
  sOff x2 2 fun x16 =>
  sLd h_3 x16 fun x17 =>
  sLt x17 (.int .i64 1) fun x18 =>
  k_1 x18) fun x19 =>
  sOr x19 (fun k =>
  sOff x2 3 fun x21 =>
  sLd h_3 x21 fun x22 =>
  sLt x22 (.int .i64 1) fun x23 =>
  k x23) fun x24 =>
  sIf x24 (R (.slice none 0 0) h_3) (sLdN h_3 x2 4 fun x25 =>
  sLdN h_3 x3 4 fun x26 =>
  betonyref04_Meets_c x25 x26 h_3 fun x27 h_4 => 
  sNot x27 fun x28 =>
  sIf x28 (sLdN h_4 x2 4 fun x29 =>
  sSlit h_4 #[.int .i64 0, .int .i64 0, .int .i64 0, .int .i64 0] [(0, 4, x29)] 35 1 fun x30 h_5 => 
  R x30 h_5) (sLdN h_4 x2 4 fun x31 =>
  sLdN h_4 x3 4 fun x32 =>
  betonyref04_Both_c x31 x32 h_4 fun x33 h_6 => 
  sNew h_6 #[.int .i64 0, .int .i64 0, .int .i64 0, .int .i64 0] 35 fun x5 h_7 => 
  sStN h_7 x5 x33 4 fun h_8 => 
  sOff x2 0 fun x34 =>
  sLd h_8 x34 fun x35 =>
  sOff x2 1 fun x36 =>
  sLd h_8 x36 fun x37 =>
  sOff x2 2 fun x38 =>
  sLd h_8 x38 fun x39 =>
  sOff x5 1 fun x40 =>
  sLd h_8 x40 fun x41 =>
  sOff x2 1 fun x42 =>
  sLd h_8 x42 fun x43 =>
  sSub .i64 x41 x43 fun x44 =>
  sBuild #[.int .i64 0, .int .i64 0, .int .i64 0, .int .i64 0] [(0, 1, x35), (1, 1, x37), (2, 1, x39), (3, 1, x44)] fun x45 =>
  betonyref04_put_c (.slice none 0 0) x45 h_8 fun x46 h_9 => 
  sOff x2 0 fun x48 =>
  sLd h_9 x48 fun x49 =>
  sOff x5 1 fun x50 =>
  sLd h_9 x50 fun x51 =>
  sOff x5 0 fun x52 =>
  sLd h_9 x52 fun x53 =>
  sOff x2 0 fun x54 =>
  sLd h_9 x54 fun x55 =>
  sSub .i64 x53 x55 fun x56 =>
  sOff x5 3 fun x57 =>
  sLd h_9 x57 fun x58 =>
  sBuild #[.int .i64 0, .int .i64 0, .int .i64 0, .int .i64 0] [(0, 1, x49), (1, 1, x51), (2, 1, x56), (3, 1, x58)] fun x59 =>
  betonyref04_put_c x46 x59 h_9 fun x60 h_10 => 
  sOff x5 0 fun x62 =>
  sLd h_10 x62 fun x63 =>
  sOff x5 2 fun x64 =>
  sLd h_10 x64 fun x65 =>
  sAdd .i64 x63 x65 fun x66 =>
  sOff x5 1 fun x67 =>
  sLd h_10 x67 fun x68 =>
  sOff x2 0 fun x69 =>
  sLd h_10 x69 fun x70 =>
  sOff x2 2 fun x71 =>
  sLd h_10 x71 fun x72 =>
  sAdd .i64 x70 x72 fun x73 =>
  sOff x5 0 fun x74 =>
  sLd h_10 x74 fun x75 =>
  sSub .i64 x73 x75 fun x76 =>
  sOff x5 2 fun x77 =>
  sLd h_10 x77 fun x78 =>
  sSub .i64 x76 x78 fun x79 =>
  sOff x5 3 fun x80 =>
  sLd h_10 x80 fun x81 =>
  sBuild #[.int .i64 0, .int .i64 0, .int .i64 0, .int .i64 0] [(0, 1, x66), (1, 1, x68), (2, 1, x79), (3, 1, x81)] fun x82 =>
  betonyref04_put_c x60 x82 h_10 fun x83 h_11 => 
  sOff x2 0 fun x85 =>
  sLd h_11 x85 fun x86 =>
  sOff x5 1 fun x87 =>
  sLd h_11 x87 fun x88 =>
  sOff x5 3 fun x89 =>
  sLd h_11 x89 fun x90 =>
  sAdd .i64 x88 x90 fun x91 =>
  sOff x2 2 fun x92 =>
  sLd h_11 x92 fun x93 =>
  sOff x2 1 fun x94 =>
  sLd h_11 x94 fun x95 =>
  sOff x2 3 fun x96 =>
  sLd h_11 x96 fun x97 =>
  sAdd .i64 x95 x97 fun x98 =>
  sOff x5 1 fun x99 =>
  sLd h_11 x99 fun x100 =>
  sSub .i64 x98 x100 fun x101 =>
  sOff x5 3 fun x102 =>
  sLd h_11 x102 fun x103 =>
  sSub .i64 x101 x103 fun x104 =>
  sBuild #[.int .i64 0, .int .i64 0, .int .i64 0, .int .i64 0] [(0, 1, x86), (1, 1, x91), (2, 1, x93), (3, 1, x104)] fun x105 =>
  betonyref04_put_c x83 x105 h_11 fun x106 h_12 => 
  R x106 h_12))
set_option maxRecDepth 100000 in
theorem betonyref04_Less_runs {x0 x1 : Value} {h : Heap} {R : Value → Heap → Prop} (H : betonyref04_Less_S x0 x1 h R) : betonyref04_Less_c x0 x1 h R := by
  unfold betonyref04_Less_S at H
  refine runs_of (b := ⟨([x0, x1, undef, undef, undef, undef, undef, undef, undef, undef, undef, undef, undef, undef, undef, undef, undef, undef, undef, undef, undef, undef, undef, undef, undef, undef, undef, undef, undef, undef, undef, undef, undef, undef, undef, undef, undef, undef, undef, undef, undef, undef, undef, undef, undef, undef, undef, undef, undef, undef] ++ [undef, undef, undef, undef, undef, undef, undef, undef, undef, undef, undef, undef, undef, undef, undef, undef, undef, undef, undef, undef, undef, undef, undef, undef, undef, undef, undef, undef, undef, undef, undef, undef, undef, undef, undef, undef, undef, undef, undef, undef, undef, undef, undef, undef, undef, undef, undef, undef, undef, undef] ++ [undef, undef, undef, undef, undef, undef, undef]).toArray, []⟩) Try.call52 Try.func52 rfl (by kernel_rfl) (fun w0 HA => ?_)
  refine wp_seq ?_
  refine lwp_list ?_
  refine ls_d (d := some 2) (by kernel_rfl) (by kernel_rfl) HA (d_box (by kernel_rfl) H) (fun x2 h w H HA => ?_)
  refine ls_d (d := some 3) (by kernel_rfl) (by kernel_rfl) HA (d_box (by kernel_rfl) H) (fun x3 h_1 w_1 H HA_1 => ?_)
  refine ls_assign (x := (.slice none 0 0)) (by kernel_rfl) (by kernel_rfl) ?_
  refine ls_nil ?_
  refine then_normal ?_
  refine fr_eq (b := ⟨([x0, x1, x2, x3, (.slice none 0 0), undef, undef, undef, undef, undef, undef, undef, undef, undef, undef, undef, undef, undef, undef, undef, undef, undef, undef, undef, undef, undef, undef, undef, undef, undef, undef, undef, undef, undef, undef, undef, undef, undef, undef, undef, undef, undef, undef, undef, undef, undef, undef, undef, undef, undef] ++ [undef, undef, undef, undef, undef, undef, undef, undef, undef, undef, undef, undef, undef, undef, undef, undef, undef, undef, undef, undef, undef, undef, undef, undef, undef, undef, undef, undef, undef, undef, undef, undef, undef, undef, undef, undef, undef, undef, undef, undef, undef, undef, undef, undef, undef, undef, undef, undef, undef, undef] ++ [undef, undef, undef, undef, undef, undef, undef]).toArray, []⟩) (by kernel_rfl) ?_
  refine wp_seq ?_
  refine wp_seq ?_
  refine lwp_list ?_
  refine ls_y (d := some 7) (by kernel_rfl) (by kernel_rfl) HA_1 (y_ldn Try.isAgg35 Try.sizeOf35 (by kernel_rfl) H) (fun x7 H => ?_)
  refine ls_d (d := some 8) (by kernel_rfl) (by kernel_rfl) HA_1 (d_call (by kernel_rfl) (by kernel_rfl) H) (fun x8 h_2 w_2 H HA_2 => ?_)
  refine ls_p (d := some 9) (by kernel_rfl) (by kernel_rfl) (p_not (by kernel_rfl) H) (fun x9 H => ?_)
  refine ls_move (x := x9) (by kernel_rfl) (by kernel_rfl) ?_
  refine ls_orh [(), (), (), ()] (fun K a w => ∃ (D : Nat → Value) (x14 : Value) (h_3 : Heap), a = ⟨([x0, x1, x2, x3, (.slice none 0 0), undef, undef, x7, x8, x9, x9, (D 0), (D 1), (D 2), x14, undef, undef, undef, undef, undef, undef, undef, undef, undef, undef, undef, undef, undef, undef, undef, undef, undef, undef, undef, undef, undef, undef, undef, undef, undef, undef, undef, undef, undef, undef, undef, undef, undef, undef, undef] ++ [undef, undef, undef, undef, undef, undef, undef, undef, undef, undef, undef, undef, undef, undef, undef, undef, undef, undef, undef, undef, undef, undef, undef, undef, undef, undef, undef, undef, undef, undef, undef, undef, undef, undef, undef, undef, undef, undef, undef, undef, undef, undef, undef, undef, undef, undef, undef, undef, undef, undef] ++ [undef, undef, undef, undef, undef, undef, undef]).toArray, []⟩ ∧ At w0 w h_3 ∧ K x14 h_3) H (fun hb_2 H => ?_) (fun hb_2 H => ?_) ?_
  · refine ls_y (d := some 11) (by kernel_rfl) (by rw [hb_2]; kernel_rfl) HA_2 (y_ldn Try.isAgg35 Try.sizeOf35 (by kernel_rfl) H) (fun x11 H => ?_)
    refine ls_d (d := some 12) (by kernel_rfl) (by rw [hb_2]; kernel_rfl) HA_2 (d_call (by kernel_rfl) (by kernel_rfl) H) (fun x12 h_13 w_15 H HA_15 => ?_)
    refine ls_fr (b := ⟨([x0, x1, x2, x3, (.slice none 0 0), undef, undef, x7, x8, x9, x9, x11, x12, undef, undef, undef, undef, undef, undef, undef, undef, undef, undef, undef, undef, undef, undef, undef, undef, undef, undef, undef, undef, undef, undef, undef, undef, undef, undef, undef, undef, undef, undef, undef, undef, undef, undef, undef, undef, undef] ++ [undef, undef, undef, undef, undef, undef, undef, undef, undef, undef, undef, undef, undef, undef, undef, undef, undef, undef, undef, undef, undef, undef, undef, undef, undef, undef, undef, undef, undef, undef, undef, undef, undef, undef, undef, undef, undef, undef, undef, undef, undef, undef, undef, undef, undef, undef, undef, undef, undef, undef] ++ [undef, undef, undef, undef, undef, undef, undef]).toArray, []⟩) (by kernel_rfl) ?_
    refine ls_p (d := some 13) (by kernel_rfl) (by rw [hb_2]; kernel_rfl) (p_not (by kernel_rfl) H) (fun x13 H => ?_)
    refine ls_pick_f (y := x13) (by kernel_rfl) (by rw [hb_2]; kernel_rfl) (by kernel_rfl) ?_
    refine ls_nil ?_
    refine then_normal ?_
    exact ⟨(fun i => ([x11, x12, x13]).getD i undef), x13, h_13, by kernel_rfl, HA_15, H⟩
  · refine ls_skip (d := some 11) (by kernel_rfl) (by rw [hb_2]; kernel_rfl) ?_
    refine ls_skip (d := some 12) (by kernel_rfl) (by rw [hb_2]; kernel_rfl) ?_
    refine ls_fr (b := ⟨([x0, x1, x2, x3, (.slice none 0 0), undef, undef, x7, x8, x9, x9, undef, undef, undef, undef, undef, undef, undef, undef, undef, undef, undef, undef, undef, undef, undef, undef, undef, undef, undef, undef, undef, undef, undef, undef, undef, undef, undef, undef, undef, undef, undef, undef, undef, undef, undef, undef, undef, undef, undef] ++ [undef, undef, undef, undef, undef, undef, undef, undef, undef, undef, undef, undef, undef, undef, undef, undef, undef, undef, undef, undef, undef, undef, undef, undef, undef, undef, undef, undef, undef, undef, undef, undef, undef, undef, undef, undef, undef, undef, undef, undef, undef, undef, undef, undef, undef, undef, undef, undef, undef, undef] ++ [undef, undef, undef, undef, undef, undef, undef]).toArray, []⟩) (by kernel_rfl) ?_
    refine ls_skip (d := some 13) (by kernel_rfl) (by rw [hb_2]; kernel_rfl) ?_
    refine ls_pick_t (x := (.bool true)) (by kernel_rfl) (by rw [hb_2]; kernel_rfl) (by kernel_rfl) ?_
    refine ls_nil ?_
    refine then_normal ?_
    exact ⟨(fun i => ([undef, undef, undef]).getD i undef), (.bool true), h_2, by kernel_rfl, HA_2, H⟩
  · rintro _ w_3 ⟨D, x14, h_3, rfl, HA_3, H⟩
    refine ls_move (x := x14) (by kernel_rfl) (by kernel_rfl) ?_
    refine ls_or [(), (), (), ()] (fun K a w => ∃ (D_1 : Nat → Value) (x19 : Value), a = ⟨([x0, x1, x2, x3, (.slice none 0 0), undef, undef, x7, x8, x9, x9, (D 0), (D 1), (D 2), x14, x14, (D_1 0), (D_1 1), (D_1 2), x19, undef, undef, undef, undef, undef, undef, undef, undef, undef, undef, undef, undef, undef, undef, undef, undef, undef, undef, undef, undef, undef, undef, undef, undef, undef, undef, undef, undef, undef, undef] ++ [undef, undef, undef, undef, undef, undef, undef, undef, undef, undef, undef, undef, undef, undef, undef, undef, undef, undef, undef, undef, undef, undef, undef, undef, undef, undef, undef, undef, undef, undef, undef, undef, undef, undef, undef, undef, undef, undef, undef, undef, undef, undef, undef, undef, undef, undef, undef, undef, undef, undef] ++ [undef, undef, undef, undef, undef, undef, undef]).toArray, []⟩ ∧ At w0 w h_3 ∧ K x19) H (fun hb_1 H => ?_) (fun hb_1 H => ?_) ?_
    · refine ls_p (d := some 16) (by kernel_rfl) (by rw [hb_1]; kernel_rfl) (p_off Try.underlying35 rfl (fun w => ⟨_, Try.sizeOf3 w⟩) rfl (by kernel_rfl) H) (fun x16 H => ?_)
      refine ls_y (d := some 17) (by kernel_rfl) (by rw [hb_1]; kernel_rfl) HA_3 (y_ld Try.isAgg3 (by kernel_rfl) H) (fun x17 H => ?_)
      refine ls_p (d := some 18) (by kernel_rfl) (by rw [hb_1]; kernel_rfl) (p_sLt (by kernel_rfl) (by kernel_rfl) H) (fun x18 H => ?_)
      refine ls_pick_f (y := x18) (by kernel_rfl) (by rw [hb_1]; kernel_rfl) (by kernel_rfl) ?_
      refine ls_nil ?_
      refine then_normal ?_
      exact ⟨(fun i => ([x16, x17, x18]).getD i undef), x18, by kernel_rfl, HA_3, H⟩
    · refine ls_skip (d := some 16) (by kernel_rfl) (by rw [hb_1]; kernel_rfl) ?_
      refine ls_skip (d := some 17) (by kernel_rfl) (by rw [hb_1]; kernel_rfl) ?_
      refine ls_skip (d := some 18) (by kernel_rfl) (by rw [hb_1]; kernel_rfl) ?_
      refine ls_pick_t (x := (.bool true)) (by kernel_rfl) (by rw [hb_1]; kernel_rfl) (by kernel_rfl) ?_
      refine ls_nil ?_
      refine then_normal ?_
      exact ⟨(fun i => ([undef, undef, undef]).getD i undef), (.bool true), by kernel_rfl, HA_3, H⟩
    · rintro _ w_4 ⟨D_1, x19, rfl, HA_4, H⟩
      refine ls_move (x := x19) (by kernel_rfl) (by kernel_rfl) ?_
      refine ls_or [(), (), (), ()] (fun K a w => ∃ (D_2 : Nat → Value) (x24 : Value), a = ⟨([x0, x1, x2, x3, (.slice none 0 0), undef, undef, x7, x8, x9, x9, (D 0), (D 1), (D 2), x14, x14, (D_1 0), (D_1 1), (D_1 2), x19, x19, (D_2 0), (D_2 1), (D_2 2), x24, undef, undef, undef, undef, undef, undef, undef, undef, undef, undef, undef, undef, undef, undef, undef, undef, undef, undef, undef, undef, undef, undef, undef, undef, undef] ++ [undef, undef, undef, undef, undef, undef, undef, undef, undef, undef, undef, undef, undef, undef, undef, undef, undef, undef, undef, undef, undef, undef, undef, undef, undef, undef, undef, undef, undef, undef, undef, undef, undef, undef, undef, undef, undef, undef, undef, undef, undef, undef, undef, undef, undef, undef, undef, undef, undef, undef] ++ [undef, undef, undef, undef, undef, undef, undef]).toArray, []⟩ ∧ At w0 w h_3 ∧ K x24) H (fun hb H => ?_) (fun hb H => ?_) ?_
      · refine ls_p (d := some 21) (by kernel_rfl) (by rw [hb]; kernel_rfl) (p_off Try.underlying35 rfl (fun w => ⟨_, Try.sizeOf3 w⟩) rfl (by kernel_rfl) H) (fun x21 H => ?_)
        refine ls_y (d := some 22) (by kernel_rfl) (by rw [hb]; kernel_rfl) HA_4 (y_ld Try.isAgg3 (by kernel_rfl) H) (fun x22 H => ?_)
        refine ls_p (d := some 23) (by kernel_rfl) (by rw [hb]; kernel_rfl) (p_sLt (by kernel_rfl) (by kernel_rfl) H) (fun x23 H => ?_)
        refine ls_pick_f (y := x23) (by kernel_rfl) (by rw [hb]; kernel_rfl) (by kernel_rfl) ?_
        refine ls_nil ?_
        refine then_normal ?_
        exact ⟨(fun i => ([x21, x22, x23]).getD i undef), x23, by kernel_rfl, HA_4, H⟩
      · refine ls_skip (d := some 21) (by kernel_rfl) (by rw [hb]; kernel_rfl) ?_
        refine ls_skip (d := some 22) (by kernel_rfl) (by rw [hb]; kernel_rfl) ?_
        refine ls_skip (d := some 23) (by kernel_rfl) (by rw [hb]; kernel_rfl) ?_
        refine ls_pick_t (x := (.bool true)) (by kernel_rfl) (by rw [hb]; kernel_rfl) (by kernel_rfl) ?_
        refine ls_nil ?_
        refine then_normal ?_
        exact ⟨(fun i => ([undef, undef, undef]).getD i undef), (.bool true), by kernel_rfl, HA_4, H⟩
      · rintro _ w_5 ⟨D_2, x24, rfl, HA_5, H⟩
        refine ls_nil ?_
        refine then_normal ?_
        refine fr_eq (b := ⟨([x0, x1, x2, x3, (.slice none 0 0), undef, undef, x7, x8, x9, x9, (D 0), (D 1), (D 2), x14, x14, (D_1 0), (D_1 1), (D_1 2), x19, x19, (D_2 0), (D_2 1), (D_2 2), x24, undef, undef, undef, undef, undef, undef, undef, undef, undef, undef, undef, undef, undef, undef, undef, undef, undef, undef, undef, undef, undef, undef, undef, undef, undef] ++ [undef, undef, undef, undef, undef, undef, undef, undef, undef, undef, undef, undef, undef, undef, undef, undef, undef, undef, undef, undef, undef, undef, undef, undef, undef, undef, undef, undef, undef, undef, undef, undef, undef, undef, undef, undef, undef, undef, undef, undef, undef, undef, undef, undef, undef, undef, undef, undef, undef, undef] ++ [undef, undef, undef, undef, undef, undef, undef]).toArray, []⟩) (by kernel_rfl) ?_
        refine wp_if rfl H (fun H => ?_) (fun H => ?_)
        · refine wp_seq ?_
          refine lwp_list ?_
          refine ls_assign (x := (.slice none 0 0)) (by kernel_rfl) (by kernel_rfl) ?_
          refine ls_nil ?_
          refine then_normal ?_
          refine fr_eq (b := ⟨([x0, x1, x2, x3, (.slice none 0 0), undef, undef, x7, x8, x9, x9, (D 0), (D 1), (D 2), x14, x14, (D_1 0), (D_1 1), (D_1 2), x19, x19, (D_2 0), (D_2 1), (D_2 2), x24, undef, undef, undef, undef, undef, undef, undef, undef, undef, undef, undef, undef, undef, undef, undef, undef, undef, undef, undef, undef, undef, undef, undef, undef, undef] ++ [undef, undef, undef, undef, undef, undef, undef, undef, undef, undef, undef, undef, undef, undef, undef, undef, undef, undef, undef, undef, undef, undef, undef, undef, undef, undef, undef, undef, undef, undef, undef, undef, undef, undef, undef, undef, undef, undef, undef, undef, undef, undef, undef, undef, undef, undef, undef, undef, undef, undef] ++ [undef, undef, undef, undef, undef, undef, undef]).toArray, []⟩) (by kernel_rfl) ?_
          refine wp_ret ?_
          refine then_ret ?_
          exact end1 (Try.results52) (by kernel_rfl) (by kernel_rfl) HA_5 H _ (.inr rfl)
        · refine wp_skip ?_
          refine then_normal ?_
          refine fr_eq (b := ⟨([x0, x1, x2, x3, (.slice none 0 0), undef, undef, x7, x8, x9, x9, (D 0), (D 1), (D 2), x14, x14, (D_1 0), (D_1 1), (D_1 2), x19, x19, (D_2 0), (D_2 1), (D_2 2), x24, undef, undef, undef, undef, undef, undef, undef, undef, undef, undef, undef, undef, undef, undef, undef, undef, undef, undef, undef, undef, undef, undef, undef, undef, undef] ++ [undef, undef, undef, undef, undef, undef, undef, undef, undef, undef, undef, undef, undef, undef, undef, undef, undef, undef, undef, undef, undef, undef, undef, undef, undef, undef, undef, undef, undef, undef, undef, undef, undef, undef, undef, undef, undef, undef, undef, undef, undef, undef, undef, undef, undef, undef, undef, undef, undef, undef] ++ [undef, undef, undef, undef, undef, undef, undef]).toArray, []⟩) (by kernel_rfl) ?_
          refine wp_seq ?_
          refine wp_seq ?_
          refine lwp_list ?_
          refine ls_y (d := some 25) (by kernel_rfl) (by kernel_rfl) HA_5 (y_ldn Try.isAgg35 Try.sizeOf35 (by kernel_rfl) H) (fun x25 H => ?_)
          refine ls_y (d := some 26) (by kernel_rfl) (by kernel_rfl) HA_5 (y_ldn Try.isAgg35 Try.sizeOf35 (by kernel_rfl) H) (fun x26 H => ?_)
          refine ls_d (d := some 27) (by kernel_rfl) (by kernel_rfl) HA_5 (d_call (by kernel_rfl) (by kernel_rfl) H) (fun x27 h_4 w_6 H HA_6 => ?_)
          refine ls_p (d := some 28) (by kernel_rfl) (by kernel_rfl) (p_not (by kernel_rfl) H) (fun x28 H => ?_)
          refine ls_nil ?_
          refine then_normal ?_
          refine fr_eq (b := ⟨([x0, x1, x2, x3, (.slice none 0 0), undef, undef, x7, x8, x9, x9, (D 0), (D 1), (D 2), x14, x14, (D_1 0), (D_1 1), (D_1 2), x19, x19, (D_2 0), (D_2 1), (D_2 2), x24, x25, x26, x27, x28, undef, undef, undef, undef, undef, undef, undef, undef, undef, undef, undef, undef, undef, undef, undef, undef, undef, undef, undef, undef, undef] ++ [undef, undef, undef, undef, undef, undef, undef, undef, undef, undef, undef, undef, undef, undef, undef, undef, undef, undef, undef, undef, undef, undef, undef, undef, undef, undef, undef, undef, undef, undef, undef, undef, undef, undef, undef, undef, undef, undef, undef, undef, undef, undef, undef, undef, undef, undef, undef, undef, undef, undef] ++ [undef, undef, undef, undef, undef, undef, undef]).toArray, []⟩) (by kernel_rfl) ?_
          refine wp_if rfl H (fun H => ?_) (fun H => ?_)
          · refine wp_seq ?_
            refine lwp_list ?_
            refine ls_y (d := some 29) (by kernel_rfl) (by kernel_rfl) HA_6 (y_ldn Try.isAgg35 Try.sizeOf35 (by kernel_rfl) H) (fun x29 H => ?_)
            refine ls_d (d := some 30) (by kernel_rfl) (by kernel_rfl) HA_6 (d_slit (zc := #[.int .i64 0, .int .i64 0, .int .i64 0, .int .i64 0]) Try.underlying37 Try.sizeOf35 (by decide) (.inr ⟨by decide, _, Try.zeroValue35, (by kernel_rfl)⟩) (by kernel_rfl) (by kernel_rfl) H) (fun x30 h_5 w_7 H HA_7 => ?_)
            refine ls_assign (x := x30) (by kernel_rfl) (by kernel_rfl) ?_
            refine ls_nil ?_
            refine then_normal ?_
            refine fr_eq (b := ⟨([x0, x1, x2, x3, x30, undef, undef, x7, x8, x9, x9, (D 0), (D 1), (D 2), x14, x14, (D_1 0), (D_1 1), (D_1 2), x19, x19, (D_2 0), (D_2 1), (D_2 2), x24, x25, x26, x27, x28, x29, x30, undef, undef, undef, undef, undef, undef, undef, undef, undef, undef, undef, undef, undef, undef, undef, undef, undef, undef, undef] ++ [undef, undef, undef, undef, undef, undef, undef, undef, undef, undef, undef, undef, undef, undef, undef, undef, undef, undef, undef, undef, undef, undef, undef, undef, undef, undef, undef, undef, undef, undef, undef, undef, undef, undef, undef, undef, undef, undef, undef, undef, undef, undef, undef, undef, undef, undef, undef, undef, undef, undef] ++ [undef, undef, undef, undef, undef, undef, undef]).toArray, []⟩) (by kernel_rfl) ?_
            refine wp_ret ?_
            refine then_ret ?_
            exact end1 (Try.results52) (by kernel_rfl) (by kernel_rfl) HA_7 H _ (.inr rfl)
          · refine wp_skip ?_
            refine then_normal ?_
            refine fr_eq (b := ⟨([x0, x1, x2, x3, (.slice none 0 0), undef, undef, x7, x8, x9, x9, (D 0), (D 1), (D 2), x14, x14, (D_1 0), (D_1 1), (D_1 2), x19, x19, (D_2 0), (D_2 1), (D_2 2), x24, x25, x26, x27, x28, undef, undef, undef, undef, undef, undef, undef, undef, undef, undef, undef, undef, undef, undef, undef, undef, undef, undef, undef, undef, undef] ++ [undef, undef, undef, undef, undef, undef, undef, undef, undef, undef, undef, undef, undef, undef, undef, undef, undef, undef, undef, undef, undef, undef, undef, undef, undef, undef, undef, undef, undef, undef, undef, undef, undef, undef, undef, undef, undef, undef, undef, undef, undef, undef, undef, undef, undef, undef, undef, undef, undef, undef] ++ [undef, undef, undef, undef, undef, undef, undef]).toArray, []⟩) (by kernel_rfl) ?_
            refine wp_seq ?_
            refine lwp_list ?_
            refine ls_y (d := some 31) (by kernel_rfl) (by kernel_rfl) HA_6 (y_ldn Try.isAgg35 Try.sizeOf35 (by kernel_rfl) H) (fun x31 H => ?_)
            refine ls_y (d := some 32) (by kernel_rfl) (by kernel_rfl) HA_6 (y_ldn Try.isAgg35 Try.sizeOf35 (by kernel_rfl) H) (fun x32 H => ?_)
            refine ls_d (d := some 33) (by kernel_rfl) (by kernel_rfl) HA_6 (d_call (by kernel_rfl) (by kernel_rfl) H) (fun x33 h_6 w_8 H HA_8 => ?_)
            refine ls_d (d := some 5) (by kernel_rfl) (by kernel_rfl) HA_8 (d_alloc Try.zeroValue35 H) (fun x5 h_7 w_9 H HA_9 => ?_)
            refine ls_d (d := none) (by kernel_rfl) (by kernel_rfl) HA_9 (d_stn Try.sizeOf35 (by kernel_rfl) (by kernel_rfl) H) (fun _ h_8 w_10 H HA_10 => ?_)
            refine ls_nil ?_
            refine then_normal ?_
            refine fr_eq (b := ⟨([x0, x1, x2, x3, (.slice none 0 0), x5, undef, x7, x8, x9, x9, (D 0), (D 1), (D 2), x14, x14, (D_1 0), (D_1 1), (D_1 2), x19, x19, (D_2 0), (D_2 1), (D_2 2), x24, x25, x26, x27, x28, undef, undef, x31, x32, x33, undef, undef, undef, undef, undef, undef, undef, undef, undef, undef, undef, undef, undef, undef, undef, undef] ++ [undef, undef, undef, undef, undef, undef, undef, undef, undef, undef, undef, undef, undef, undef, undef, undef, undef, undef, undef, undef, undef, undef, undef, undef, undef, undef, undef, undef, undef, undef, undef, undef, undef, undef, undef, undef, undef, undef, undef, undef, undef, undef, undef, undef, undef, undef, undef, undef, undef, undef] ++ [undef, undef, undef, undef, undef, undef, undef]).toArray, []⟩) (by kernel_rfl) ?_
            refine wp_seq ?_
            refine lwp_list ?_
            refine ls_p (d := some 34) (by kernel_rfl) (by kernel_rfl) (p_off Try.underlying35 rfl (fun w => ⟨_, Try.sizeOf3 w⟩) rfl (by kernel_rfl) H) (fun x34 H => ?_)
            refine ls_y (d := some 35) (by kernel_rfl) (by kernel_rfl) HA_10 (y_ld Try.isAgg3 (by kernel_rfl) H) (fun x35 H => ?_)
            refine ls_p (d := some 36) (by kernel_rfl) (by kernel_rfl) (p_off Try.underlying35 rfl (fun w => ⟨_, Try.sizeOf3 w⟩) rfl (by kernel_rfl) H) (fun x36 H => ?_)
            refine ls_y (d := some 37) (by kernel_rfl) (by kernel_rfl) HA_10 (y_ld Try.isAgg3 (by kernel_rfl) H) (fun x37 H => ?_)
            refine ls_p (d := some 38) (by kernel_rfl) (by kernel_rfl) (p_off Try.underlying35 rfl (fun w => ⟨_, Try.sizeOf3 w⟩) rfl (by kernel_rfl) H) (fun x38 H => ?_)
            refine ls_y (d := some 39) (by kernel_rfl) (by kernel_rfl) HA_10 (y_ld Try.isAgg3 (by kernel_rfl) H) (fun x39 H => ?_)
            refine ls_fr (b := ⟨([x0, x1, x2, x3, (.slice none 0 0), x5, undef, x7, x8, x9, x9, (D 0), (D 1), (D 2), x14, x14, (D_1 0), (D_1 1), (D_1 2), x19, x19, (D_2 0), (D_2 1), (D_2 2), x24, x25, x26, x27, x28, undef, undef, x31, x32, x33, x34, x35, x36, x37, x38, x39, undef, undef, undef, undef, undef, undef, undef, undef, undef, undef] ++ [undef, undef, undef, undef, undef, undef, undef, undef, undef, undef, undef, undef, undef, undef, undef, undef, undef, undef, undef, undef, undef, undef, undef, undef, undef, undef, undef, undef, undef, undef, undef, undef, undef, undef, undef, undef, undef, undef, undef, undef, undef, undef, undef, undef, undef, undef, undef, undef, undef, undef] ++ [undef, undef, undef, undef, undef, undef, undef]).toArray, []⟩) (by kernel_rfl) ?_
            refine ls_p (d := some 40) (by kernel_rfl) (by kernel_rfl) (p_off Try.underlying35 rfl (fun w => ⟨_, Try.sizeOf3 w⟩) rfl (by kernel_rfl) H) (fun x40 H => ?_)
            refine ls_y (d := some 41) (by kernel_rfl) (by kernel_rfl) HA_10 (y_ld Try.isAgg3 (by kernel_rfl) H) (fun x41 H => ?_)
            refine ls_p (d := some 42) (by kernel_rfl) (by kernel_rfl) (p_off Try.underlying35 rfl (fun w => ⟨_, Try.sizeOf3 w⟩) rfl (by kernel_rfl) H) (fun x42 H => ?_)
            refine ls_y (d := some 43) (by kernel_rfl) (by kernel_rfl) HA_10 (y_ld Try.isAgg3 (by kernel_rfl) H) (fun x43 H => ?_)
            refine ls_p (d := some 44) (by kernel_rfl) (by kernel_rfl) (p_sub (by kernel_rfl) (by kernel_rfl) H) (fun x44 H => ?_)
            refine ls_p (d := some 45) (by kernel_rfl) (by kernel_rfl) (p_lit (pl := [(0, 1), (1, 1), (2, 1), (3, 1)]) Try.zeroValue35 Try.underlying35 ⟨(by kernel_rfl), Try.sizeOf3, (by kernel_rfl), Try.sizeOf3, (by kernel_rfl), Try.sizeOf3, (by kernel_rfl), Try.sizeOf3, trivial⟩ (by kernel_rfl) (by kernel_rfl) H) (fun x45 H => ?_)
            refine ls_fr (b := ⟨([x0, x1, x2, x3, (.slice none 0 0), x5, undef, x7, x8, x9, x9, (D 0), (D 1), (D 2), x14, x14, (D_1 0), (D_1 1), (D_1 2), x19, x19, (D_2 0), (D_2 1), (D_2 2), x24, x25, x26, x27, x28, undef, undef, x31, x32, x33, x34, x35, x36, x37, x38, x39, x40, x41, x42, x43, x44, x45, undef, undef, undef, undef] ++ [undef, undef, undef, undef, undef, undef, undef, undef, undef, undef, undef, undef, undef, undef, undef, undef, undef, undef, undef, undef, undef, undef, undef, undef, undef, undef, undef, undef, undef, undef, undef, undef, undef, undef, undef, undef, undef, undef, undef, undef, undef, undef, undef, undef, undef, undef, undef, undef, undef, undef] ++ [undef, undef, undef, undef, undef, undef, undef]).toArray, []⟩) (by kernel_rfl) ?_
            refine ls_d (d := some 46) (by kernel_rfl) (by kernel_rfl) HA_10 (d_call (by kernel_rfl) (by kernel_rfl) H) (fun x46 h_9 w_11 H HA_11 => ?_)
            refine ls_assign (x := x46) (by kernel_rfl) (by kernel_rfl) ?_
            refine ls_nil ?_
            refine then_normal ?_
            refine fr_eq (b := ⟨([x0, x1, x2, x3, (.slice none 0 0), x5, x46, x7, x8, x9, x9, (D 0), (D 1), (D 2), x14, x14, (D_1 0), (D_1 1), (D_1 2), x19, x19, (D_2 0), (D_2 1), (D_2 2), x24, x25, x26, x27, x28, undef, undef, x31, x32, x33, x34, x35, x36, x37, x38, x39, x40, x41, x42, x43, x44, x45, x46, undef, undef, undef] ++ [undef, undef, undef, undef, undef, undef, undef, undef, undef, undef, undef, undef, undef, undef, undef, undef, undef, undef, undef, undef, undef, undef, undef, undef, undef, undef, undef, undef, undef, undef, undef, undef, undef, undef, undef, undef, undef, undef, undef, undef, undef, undef, undef, undef, undef, undef, undef, undef, undef, undef] ++ [undef, undef, undef, undef, undef, undef, undef]).toArray, []⟩) (by kernel_rfl) ?_
            refine wp_seq ?_
            refine lwp_list ?_
            refine ls_move (x := x46) (by kernel_rfl) (by kernel_rfl) ?_
            refine ls_p (d := some 48) (by kernel_rfl) (by kernel_rfl) (p_off Try.underlying35 rfl (fun w => ⟨_, Try.sizeOf3 w⟩) rfl (by kernel_rfl) H) (fun x48 H => ?_)
            refine ls_y (d := some 49) (by kernel_rfl) (by kernel_rfl) HA_11 (y_ld Try.isAgg3 (by kernel_rfl) H) (fun x49 H => ?_)
            refine ls_p (d := some 50) (by kernel_rfl) (by kernel_rfl) (p_off Try.underlying35 rfl (fun w => ⟨_, Try.sizeOf3 w⟩) rfl (by kernel_rfl) H) (fun x50 H => ?_)
            refine ls_y (d := some 51) (by kernel_rfl) (by kernel_rfl) HA_11 (y_ld Try.isAgg3 (by kernel_rfl) H) (fun x51 H => ?_)
            refine ls_p (d := some 52) (by kernel_rfl) (by kernel_rfl) (p_off Try.underlying35 rfl (fun w => ⟨_, Try.sizeOf3 w⟩) rfl (by kernel_rfl) H) (fun x52 H => ?_)
            refine ls_fr (b := ⟨([x0, x1, x2, x3, (.slice none 0 0), x5, x46, x7, x8, x9, x9, (D 0), (D 1), (D 2), x14, x14, (D_1 0), (D_1 1), (D_1 2), x19, x19, (D_2 0), (D_2 1), (D_2 2), x24, x25, x26, x27, x28, undef, undef, x31, x32, x33, x34, x35, x36, x37, x38, x39, x40, x41, x42, x43, x44, x45, x46, x46, x48, x49] ++ [x50, x51, x52, undef, undef, undef, undef, undef, undef, undef, undef, undef, undef, undef, undef, undef, undef, undef, undef, undef, undef, undef, undef, undef, undef, undef, undef, undef, undef, undef, undef, undef, undef, undef, undef, undef, undef, undef, undef, undef, undef, undef, undef, undef, undef, undef, undef, undef, undef, undef] ++ [undef, undef, undef, undef, undef, undef, undef]).toArray, []⟩) (by kernel_rfl) ?_
            refine ls_y (d := some 53) (by kernel_rfl) (by kernel_rfl) HA_11 (y_ld Try.isAgg3 (by kernel_rfl) H) (fun x53 H => ?_)
            refine ls_p (d := some 54) (by kernel_rfl) (by kernel_rfl) (p_off Try.underlying35 rfl (fun w => ⟨_, Try.sizeOf3 w⟩) rfl (by kernel_rfl) H) (fun x54 H => ?_)
            refine ls_y (d := some 55) (by kernel_rfl) (by kernel_rfl) HA_11 (y_ld Try.isAgg3 (by kernel_rfl) H) (fun x55 H => ?_)
            refine ls_p (d := some 56) (by kernel_rfl) (by kernel_rfl) (p_sub (by kernel_rfl) (by kernel_rfl) H) (fun x56 H => ?_)
            refine ls_p (d := some 57) (by kernel_rfl) (by kernel_rfl) (p_off Try.underlying35 rfl (fun w => ⟨_, Try.sizeOf3 w⟩) rfl (by kernel_rfl) H) (fun x57 H => ?_)
            refine ls_y (d := some 58) (by kernel_rfl) (by kernel_rfl) HA_11 (y_ld Try.isAgg3 (by kernel_rfl) H) (fun x58 H => ?_)
            refine ls_fr (b := ⟨([x0, x1, x2, x3, (.slice none 0 0), x5, x46, x7, x8, x9, x9, (D 0), (D 1), (D 2), x14, x14, (D_1 0), (D_1 1), (D_1 2), x19, x19, (D_2 0), (D_2 1), (D_2 2), x24, x25, x26, x27, x28, undef, undef, x31, x32, x33, x34, x35, x36, x37, x38, x39, x40, x41, x42, x43, x44, x45, x46, x46, x48, x49] ++ [x50, x51, x52, x53, x54, x55, x56, x57, x58, undef, undef, undef, undef, undef, undef, undef, undef, undef, undef, undef, undef, undef, undef, undef, undef, undef, undef, undef, undef, undef, undef, undef, undef, undef, undef, undef, undef, undef, undef, undef, undef, undef, undef, undef, undef, undef, undef, undef, undef, undef] ++ [undef, undef, undef, undef, undef, undef, undef]).toArray, []⟩) (by kernel_rfl) ?_
            refine ls_p (d := some 59) (by kernel_rfl) (by kernel_rfl) (p_lit (pl := [(0, 1), (1, 1), (2, 1), (3, 1)]) Try.zeroValue35 Try.underlying35 ⟨(by kernel_rfl), Try.sizeOf3, (by kernel_rfl), Try.sizeOf3, (by kernel_rfl), Try.sizeOf3, (by kernel_rfl), Try.sizeOf3, trivial⟩ (by kernel_rfl) (by kernel_rfl) H) (fun x59 H => ?_)
            refine ls_d (d := some 60) (by kernel_rfl) (by kernel_rfl) HA_11 (d_call (by kernel_rfl) (by kernel_rfl) H) (fun x60 h_10 w_12 H HA_12 => ?_)
            refine ls_assign (x := x60) (by kernel_rfl) (by kernel_rfl) ?_
            refine ls_nil ?_
            refine then_normal ?_
            refine fr_eq (b := ⟨([x0, x1, x2, x3, (.slice none 0 0), x5, x60, x7, x8, x9, x9, (D 0), (D 1), (D 2), x14, x14, (D_1 0), (D_1 1), (D_1 2), x19, x19, (D_2 0), (D_2 1), (D_2 2), x24, x25, x26, x27, x28, undef, undef, x31, x32, x33, x34, x35, x36, x37, x38, x39, x40, x41, x42, x43, x44, x45, x46, x46, x48, x49] ++ [x50, x51, x52, x53, x54, x55, x56, x57, x58, x59, x60, undef, undef, undef, undef, undef, undef, undef, undef, undef, undef, undef, undef, undef, undef, undef, undef, undef, undef, undef, undef, undef, undef, undef, undef, undef, undef, undef, undef, undef, undef, undef, undef, undef, undef, undef, undef, undef, undef, undef] ++ [undef, undef, undef, undef, undef, undef, undef]).toArray, []⟩) (by kernel_rfl) ?_
            refine wp_seq ?_
            refine lwp_list ?_
            refine ls_move (x := x60) (by kernel_rfl) (by kernel_rfl) ?_
            refine ls_p (d := some 62) (by kernel_rfl) (by kernel_rfl) (p_off Try.underlying35 rfl (fun w => ⟨_, Try.sizeOf3 w⟩) rfl (by kernel_rfl) H) (fun x62 H => ?_)
            refine ls_y (d := some 63) (by kernel_rfl) (by kernel_rfl) HA_12 (y_ld Try.isAgg3 (by kernel_rfl) H) (fun x63 H => ?_)
            refine ls_p (d := some 64) (by kernel_rfl) (by kernel_rfl) (p_off Try.underlying35 rfl (fun w => ⟨_, Try.sizeOf3 w⟩) rfl (by kernel_rfl) H) (fun x64 H => ?_)
            refine ls_y (d := some 65) (by kernel_rfl) (by kernel_rfl) HA_12 (y_ld Try.isAgg3 (by kernel_rfl) H) (fun x65 H => ?_)
            refine ls_p (d := some 66) (by kernel_rfl) (by kernel_rfl) (p_add (by kernel_rfl) (by kernel_rfl) H) (fun x66 H => ?_)
            refine ls_fr (b := ⟨([x0, x1, x2, x3, (.slice none 0 0), x5, x60, x7, x8, x9, x9, (D 0), (D 1), (D 2), x14, x14, (D_1 0), (D_1 1), (D_1 2), x19, x19, (D_2 0), (D_2 1), (D_2 2), x24, x25, x26, x27, x28, undef, undef, x31, x32, x33, x34, x35, x36, x37, x38, x39, x40, x41, x42, x43, x44, x45, x46, x46, x48, x49] ++ [x50, x51, x52, x53, x54, x55, x56, x57, x58, x59, x60, x60, x62, x63, x64, x65, x66, undef, undef, undef, undef, undef, undef, undef, undef, undef, undef, undef, undef, undef, undef, undef, undef, undef, undef, undef, undef, undef, undef, undef, undef, undef, undef, undef, undef, undef, undef, undef, undef, undef] ++ [undef, undef, undef, undef, undef, undef, undef]).toArray, []⟩) (by kernel_rfl) ?_
            refine ls_p (d := some 67) (by kernel_rfl) (by kernel_rfl) (p_off Try.underlying35 rfl (fun w => ⟨_, Try.sizeOf3 w⟩) rfl (by kernel_rfl) H) (fun x67 H => ?_)
            refine ls_y (d := some 68) (by kernel_rfl) (by kernel_rfl) HA_12 (y_ld Try.isAgg3 (by kernel_rfl) H) (fun x68 H => ?_)
            refine ls_p (d := some 69) (by kernel_rfl) (by kernel_rfl) (p_off Try.underlying35 rfl (fun w => ⟨_, Try.sizeOf3 w⟩) rfl (by kernel_rfl) H) (fun x69 H => ?_)
            refine ls_y (d := some 70) (by kernel_rfl) (by kernel_rfl) HA_12 (y_ld Try.isAgg3 (by kernel_rfl) H) (fun x70 H => ?_)
            refine ls_p (d := some 71) (by kernel_rfl) (by kernel_rfl) (p_off Try.underlying35 rfl (fun w => ⟨_, Try.sizeOf3 w⟩) rfl (by kernel_rfl) H) (fun x71 H => ?_)
            refine ls_y (d := some 72) (by kernel_rfl) (by kernel_rfl) HA_12 (y_ld Try.isAgg3 (by kernel_rfl) H) (fun x72 H => ?_)
            refine ls_fr (b := ⟨([x0, x1, x2, x3, (.slice none 0 0), x5, x60, x7, x8, x9, x9, (D 0), (D 1), (D 2), x14, x14, (D_1 0), (D_1 1), (D_1 2), x19, x19, (D_2 0), (D_2 1), (D_2 2), x24, x25, x26, x27, x28, undef, undef, x31, x32, x33, x34, x35, x36, x37, x38, x39, x40, x41, x42, x43, x44, x45, x46, x46, x48, x49] ++ [x50, x51, x52, x53, x54, x55, x56, x57, x58, x59, x60, x60, x62, x63, x64, x65, x66, x67, x68, x69, x70, x71, x72, undef, undef, undef, undef, undef, undef, undef, undef, undef, undef, undef, undef, undef, undef, undef, undef, undef, undef, undef, undef, undef, undef, undef, undef, undef, undef, undef] ++ [undef, undef, undef, undef, undef, undef, undef]).toArray, []⟩) (by kernel_rfl) ?_
            refine ls_p (d := some 73) (by kernel_rfl) (by kernel_rfl) (p_add (by kernel_rfl) (by kernel_rfl) H) (fun x73 H => ?_)
            refine ls_p (d := some 74) (by kernel_rfl) (by kernel_rfl) (p_off Try.underlying35 rfl (fun w => ⟨_, Try.sizeOf3 w⟩) rfl (by kernel_rfl) H) (fun x74 H => ?_)
            refine ls_y (d := some 75) (by kernel_rfl) (by kernel_rfl) HA_12 (y_ld Try.isAgg3 (by kernel_rfl) H) (fun x75 H => ?_)
            refine ls_p (d := some 76) (by kernel_rfl) (by kernel_rfl) (p_sub (by kernel_rfl) (by kernel_rfl) H) (fun x76 H => ?_)
            refine ls_p (d := some 77) (by kernel_rfl) (by kernel_rfl) (p_off Try.underlying35 rfl (fun w => ⟨_, Try.sizeOf3 w⟩) rfl (by kernel_rfl) H) (fun x77 H => ?_)
            refine ls_y (d := some 78) (by kernel_rfl) (by kernel_rfl) HA_12 (y_ld Try.isAgg3 (by kernel_rfl) H) (fun x78 H => ?_)
            refine ls_fr (b := ⟨([x0, x1, x2, x3, (.slice none 0 0), x5, x60, x7, x8, x9, x9, (D 0), (D 1), (D 2), x14, x14, (D_1 0), (D_1 1), (D_1 2), x19, x19, (D_2 0), (D_2 1), (D_2 2), x24, x25, x26, x27, x28, undef, undef, x31, x32, x33, x34, x35, x36, x37, x38, x39, x40, x41, x42, x43, x44, x45, x46, x46, x48, x49] ++ [x50, x51, x52, x53, x54, x55, x56, x57, x58, x59, x60, x60, x62, x63, x64, x65, x66, x67, x68, x69, x70, x71, x72, x73, x74, x75, x76, x77, x78, undef, undef, undef, undef, undef, undef, undef, undef, undef, undef, undef, undef, undef, undef, undef, undef, undef, undef, undef, undef, undef] ++ [undef, undef, undef, undef, undef, undef, undef]).toArray, []⟩) (by kernel_rfl) ?_
            refine ls_p (d := some 79) (by kernel_rfl) (by kernel_rfl) (p_sub (by kernel_rfl) (by kernel_rfl) H) (fun x79 H => ?_)
            refine ls_p (d := some 80) (by kernel_rfl) (by kernel_rfl) (p_off Try.underlying35 rfl (fun w => ⟨_, Try.sizeOf3 w⟩) rfl (by kernel_rfl) H) (fun x80 H => ?_)
            refine ls_y (d := some 81) (by kernel_rfl) (by kernel_rfl) HA_12 (y_ld Try.isAgg3 (by kernel_rfl) H) (fun x81 H => ?_)
            refine ls_p (d := some 82) (by kernel_rfl) (by kernel_rfl) (p_lit (pl := [(0, 1), (1, 1), (2, 1), (3, 1)]) Try.zeroValue35 Try.underlying35 ⟨(by kernel_rfl), Try.sizeOf3, (by kernel_rfl), Try.sizeOf3, (by kernel_rfl), Try.sizeOf3, (by kernel_rfl), Try.sizeOf3, trivial⟩ (by kernel_rfl) (by kernel_rfl) H) (fun x82 H => ?_)
            refine ls_d (d := some 83) (by kernel_rfl) (by kernel_rfl) HA_12 (d_call (by kernel_rfl) (by kernel_rfl) H) (fun x83 h_11 w_13 H HA_13 => ?_)
            refine ls_assign (x := x83) (by kernel_rfl) (by kernel_rfl) ?_
            refine ls_nil ?_
            refine then_normal ?_
            refine fr_eq (b := ⟨([x0, x1, x2, x3, (.slice none 0 0), x5, x83, x7, x8, x9, x9, (D 0), (D 1), (D 2), x14, x14, (D_1 0), (D_1 1), (D_1 2), x19, x19, (D_2 0), (D_2 1), (D_2 2), x24, x25, x26, x27, x28, undef, undef, x31, x32, x33, x34, x35, x36, x37, x38, x39, x40, x41, x42, x43, x44, x45, x46, x46, x48, x49] ++ [x50, x51, x52, x53, x54, x55, x56, x57, x58, x59, x60, x60, x62, x63, x64, x65, x66, x67, x68, x69, x70, x71, x72, x73, x74, x75, x76, x77, x78, x79, x80, x81, x82, x83, undef, undef, undef, undef, undef, undef, undef, undef, undef, undef, undef, undef, undef, undef, undef, undef] ++ [undef, undef, undef, undef, undef, undef, undef]).toArray, []⟩) (by kernel_rfl) ?_
            refine wp_seq ?_
            refine lwp_list ?_
            refine ls_move (x := x83) (by kernel_rfl) (by kernel_rfl) ?_
            refine ls_p (d := some 85) (by kernel_rfl) (by kernel_rfl) (p_off Try.underlying35 rfl (fun w => ⟨_, Try.sizeOf3 w⟩) rfl (by kernel_rfl) H) (fun x85 H => ?_)
            refine ls_y (d := some 86) (by kernel_rfl) (by kernel_rfl) HA_13 (y_ld Try.isAgg3 (by kernel_rfl) H) (fun x86 H => ?_)
            refine ls_p (d := some 87) (by kernel_rfl) (by kernel_rfl) (p_off Try.underlying35 rfl (fun w => ⟨_, Try.sizeOf3 w⟩) rfl (by kernel_rfl) H) (fun x87 H => ?_)
            refine ls_y (d := some 88) (by kernel_rfl) (by kernel_rfl) HA_13 (y_ld Try.isAgg3 (by kernel_rfl) H) (fun x88 H => ?_)
            refine ls_p (d := some 89) (by kernel_rfl) (by kernel_rfl) (p_off Try.underlying35 rfl (fun w => ⟨_, Try.sizeOf3 w⟩) rfl (by kernel_rfl) H) (fun x89 H => ?_)
            refine ls_fr (b := ⟨([x0, x1, x2, x3, (.slice none 0 0), x5, x83, x7, x8, x9, x9, (D 0), (D 1), (D 2), x14, x14, (D_1 0), (D_1 1), (D_1 2), x19, x19, (D_2 0), (D_2 1), (D_2 2), x24, x25, x26, x27, x28, undef, undef, x31, x32, x33, x34, x35, x36, x37, x38, x39, x40, x41, x42, x43, x44, x45, x46, x46, x48, x49] ++ [x50, x51, x52, x53, x54, x55, x56, x57, x58, x59, x60, x60, x62, x63, x64, x65, x66, x67, x68, x69, x70, x71, x72, x73, x74, x75, x76, x77, x78, x79, x80, x81, x82, x83, x83, x85, x86, x87, x88, x89, undef, undef, undef, undef, undef, undef, undef, undef, undef, undef] ++ [undef, undef, undef, undef, undef, undef, undef]).toArray, []⟩) (by kernel_rfl) ?_
            refine ls_y (d := some 90) (by kernel_rfl) (by kernel_rfl) HA_13 (y_ld Try.isAgg3 (by kernel_rfl) H) (fun x90 H => ?_)
            refine ls_p (d := some 91) (by kernel_rfl) (by kernel_rfl) (p_add (by kernel_rfl) (by kernel_rfl) H) (fun x91 H => ?_)
            refine ls_p (d := some 92) (by kernel_rfl) (by kernel_rfl) (p_off Try.underlying35 rfl (fun w => ⟨_, Try.sizeOf3 w⟩) rfl (by kernel_rfl) H) (fun x92 H => ?_)
            refine ls_y (d := some 93) (by kernel_rfl) (by kernel_rfl) HA_13 (y_ld Try.isAgg3 (by kernel_rfl) H) (fun x93 H => ?_)
            refine ls_p (d := some 94) (by kernel_rfl) (by kernel_rfl) (p_off Try.underlying35 rfl (fun w => ⟨_, Try.sizeOf3 w⟩) rfl (by kernel_rfl) H) (fun x94 H => ?_)
            refine ls_y (d := some 95) (by kernel_rfl) (by kernel_rfl) HA_13 (y_ld Try.isAgg3 (by kernel_rfl) H) (fun x95 H => ?_)
            refine ls_fr (b := ⟨([x0, x1, x2, x3, (.slice none 0 0), x5, x83, x7, x8, x9, x9, (D 0), (D 1), (D 2), x14, x14, (D_1 0), (D_1 1), (D_1 2), x19, x19, (D_2 0), (D_2 1), (D_2 2), x24, x25, x26, x27, x28, undef, undef, x31, x32, x33, x34, x35, x36, x37, x38, x39, x40, x41, x42, x43, x44, x45, x46, x46, x48, x49] ++ [x50, x51, x52, x53, x54, x55, x56, x57, x58, x59, x60, x60, x62, x63, x64, x65, x66, x67, x68, x69, x70, x71, x72, x73, x74, x75, x76, x77, x78, x79, x80, x81, x82, x83, x83, x85, x86, x87, x88, x89, x90, x91, x92, x93, x94, x95, undef, undef, undef, undef] ++ [undef, undef, undef, undef, undef, undef, undef]).toArray, []⟩) (by kernel_rfl) ?_
            refine ls_p (d := some 96) (by kernel_rfl) (by kernel_rfl) (p_off Try.underlying35 rfl (fun w => ⟨_, Try.sizeOf3 w⟩) rfl (by kernel_rfl) H) (fun x96 H => ?_)
            refine ls_y (d := some 97) (by kernel_rfl) (by kernel_rfl) HA_13 (y_ld Try.isAgg3 (by kernel_rfl) H) (fun x97 H => ?_)
            refine ls_p (d := some 98) (by kernel_rfl) (by kernel_rfl) (p_add (by kernel_rfl) (by kernel_rfl) H) (fun x98 H => ?_)
            refine ls_p (d := some 99) (by kernel_rfl) (by kernel_rfl) (p_off Try.underlying35 rfl (fun w => ⟨_, Try.sizeOf3 w⟩) rfl (by kernel_rfl) H) (fun x99 H => ?_)
            refine ls_y (d := some 100) (by kernel_rfl) (by kernel_rfl) HA_13 (y_ld Try.isAgg3 (by kernel_rfl) H) (fun x100 H => ?_)
            refine ls_p (d := some 101) (by kernel_rfl) (by kernel_rfl) (p_sub (by kernel_rfl) (by kernel_rfl) H) (fun x101 H => ?_)
            refine ls_fr (b := ⟨([x0, x1, x2, x3, (.slice none 0 0), x5, x83, x7, x8, x9, x9, (D 0), (D 1), (D 2), x14, x14, (D_1 0), (D_1 1), (D_1 2), x19, x19, (D_2 0), (D_2 1), (D_2 2), x24, x25, x26, x27, x28, undef, undef, x31, x32, x33, x34, x35, x36, x37, x38, x39, x40, x41, x42, x43, x44, x45, x46, x46, x48, x49] ++ [x50, x51, x52, x53, x54, x55, x56, x57, x58, x59, x60, x60, x62, x63, x64, x65, x66, x67, x68, x69, x70, x71, x72, x73, x74, x75, x76, x77, x78, x79, x80, x81, x82, x83, x83, x85, x86, x87, x88, x89, x90, x91, x92, x93, x94, x95, x96, x97, x98, x99] ++ [x100, x101, undef, undef, undef, undef, undef]).toArray, []⟩) (by kernel_rfl) ?_
            refine ls_p (d := some 102) (by kernel_rfl) (by kernel_rfl) (p_off Try.underlying35 rfl (fun w => ⟨_, Try.sizeOf3 w⟩) rfl (by kernel_rfl) H) (fun x102 H => ?_)
            refine ls_y (d := some 103) (by kernel_rfl) (by kernel_rfl) HA_13 (y_ld Try.isAgg3 (by kernel_rfl) H) (fun x103 H => ?_)
            refine ls_p (d := some 104) (by kernel_rfl) (by kernel_rfl) (p_sub (by kernel_rfl) (by kernel_rfl) H) (fun x104 H => ?_)
            refine ls_p (d := some 105) (by kernel_rfl) (by kernel_rfl) (p_lit (pl := [(0, 1), (1, 1), (2, 1), (3, 1)]) Try.zeroValue35 Try.underlying35 ⟨(by kernel_rfl), Try.sizeOf3, (by kernel_rfl), Try.sizeOf3, (by kernel_rfl), Try.sizeOf3, (by kernel_rfl), Try.sizeOf3, trivial⟩ (by kernel_rfl) (by kernel_rfl) H) (fun x105 H => ?_)
            refine ls_d (d := some 106) (by kernel_rfl) (by kernel_rfl) HA_13 (d_call (by kernel_rfl) (by kernel_rfl) H) (fun x106 h_12 w_14 H HA_14 => ?_)
            refine ls_assign (x := x106) (by kernel_rfl) (by kernel_rfl) ?_
            refine ls_nil ?_
            refine then_normal ?_
            refine fr_eq (b := ⟨([x0, x1, x2, x3, x106, x5, x83, x7, x8, x9, x9, (D 0), (D 1), (D 2), x14, x14, (D_1 0), (D_1 1), (D_1 2), x19, x19, (D_2 0), (D_2 1), (D_2 2), x24, x25, x26, x27, x28, undef, undef, x31, x32, x33, x34, x35, x36, x37, x38, x39, x40, x41, x42, x43, x44, x45, x46, x46, x48, x49] ++ [x50, x51, x52, x53, x54, x55, x56, x57, x58, x59, x60, x60, x62, x63, x64, x65, x66, x67, x68, x69, x70, x71, x72, x73, x74, x75, x76, x77, x78, x79, x80, x81, x82, x83, x83, x85, x86, x87, x88, x89, x90, x91, x92, x93, x94, x95, x96, x97, x98, x99] ++ [x100, x101, x102, x103, x104, x105, x106]).toArray, []⟩) (by kernel_rfl) ?_
            refine wp_ret ?_
            exact end1 (Try.results52) (by kernel_rfl) (by kernel_rfl) HA_14 H _ (.inr rfl)

end Go.Proofs.Ytecoejjpdogklaa
