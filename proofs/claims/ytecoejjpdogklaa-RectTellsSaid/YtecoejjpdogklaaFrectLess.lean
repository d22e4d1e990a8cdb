/- The shallow reading of one function, and that the function does it. Written by a program. -/
import Derived.Test.YtecoejjpdogklaaFnC
set_option linter.unusedVariables false
namespace Go.Proofs.Ytecoejjpdogklaa
open Go Go.HW

def rect_Less_j2 (next : Value → Value → Heap → Prop) (x90 x6_1 : Value) (h_16 : Heap) : Prop :=
  sAdd .i64 x90 (.int .i64 1) fun x101 =>
  next x6_1 x101 h_16
def rect_Less_l1 (R : Value → Heap → Prop) (x88 x89 : Value) (next : Value → Value → Heap → Prop) (x6 x90 : Value) (h_15 : Heap) : Prop :=
  sLt x90 x89 fun x91 =>
  sIf x91 (sIxS x88 x90 4 fun x92 =>
  sLdN h_15 x92 4 fun x93 =>
  sNew h_15 #[.int .i64 0, .int .i64 0, .int .i64 0, .int .i64 0] 35 fun x8 h_17 => 
  sStN h_17 x8 x93 4 fun h_18 => 
  sLdN h_18 x8 4 fun x94 =>
  rect_Empty_c x94 h_18 fun x95 h_19 => 
  sNot x95 fun x96 =>
  sIf x96 (sLdN h_19 x8 4 fun x98 =>
  sSlit h_19 #[.int .i64 0, .int .i64 0, .int .i64 0, .int .i64 0] [(0, 4, x98)] 35 1 fun x99 h_20 => 
  sApp h_20 x6 x99 #[.int .i64 0, .int .i64 0, .int .i64 0, .int .i64 0] 35 32 fun x100 h_21 => 
  rect_Less_j2 next x90 x100 h_21) (rect_Less_j2 next x90 x6 h_19)) (R x6 h_15)
def rect_Less_S (x0 x1 : Value) (h : Heap) (R : Value → Heap → Prop) : Prop :=
  sBox h x0 35 fun x2 h => 
  sBox h x1 35 fun x3 h_1 => 
  sLdN h_1 x2 4 fun x9 =>
  rect_Right_c x9 h_1 fun x10 h_2 => 
  sNot x10 fun x11 =>
  sOrH x11 h_2 (fun k_1 =>
  sLdN h_2 x3 4 fun x13 =>
  rect_Right_c x13 h_2 fun x14 h_23 => 
  sNot x14 fun x15 =>
  k_1 x15 h_23) fun x16 h_3 =>
  sOrH x16 h_3 (fun k =>
  sLdN h_3 x2 4 fun x18 =>
  rect_Empty_c x18 h_3 fun x19 h_22 => 
  k x19 h_22) fun x20 h_4 =>
  sIf x20 (R (.slice none 0 0) h_4) (sLdN h_4 x2 4 fun x21 =>
  sLdN h_4 x3 4 fun x22 =>
  rect_Both_c x21 x22 h_4 fun x23 h_5 => 
  sNew h_5 #[.int .i64 0, .int .i64 0, .int .i64 0, .int .i64 0] 35 fun x5 h_6 => 
  sStN h_6 x5 x23 4 fun h_7 => 
  sLdN h_7 x5 4 fun x24 =>
  rect_Empty_c x24 h_7 fun x25 h_8 => 
  sIf x25 (sLdN h_8 x2 4 fun x26 =>
  sSlit h_8 #[.int .i64 0, .int .i64 0, .int .i64 0, .int .i64 0] [(0, 4, x26)] 35 1 fun x27 h_9 => 
  R x27 h_9) (∃ C : Heap → Prop, C h_8 ∧ (sOff x2 0 fun x28 =>
  sLdC C x28 fun x29 =>
  sOff x2 1 fun x30 =>
  sLdC C x30 fun x31 =>
  sOff x2 0 fun x32 =>
  sLdC C x32 fun x33 =>
  sOff x2 2 fun x34 =>
  sLdC C x34 fun x35 =>
  sAdd .i64 x33 x35 fun x36 =>
  sOff x5 1 fun x37 =>
  sLdC C x37 fun x38 =>
  rect_of_c x29 x31 x36 x38 h_8 fun x39 h_10 => C h_10 ∧ (
  sOff x2 0 fun x40 =>
  sLdC C x40 fun x41 =>
  sOff x5 1 fun x42 =>
  sLdC C x42 fun x43 =>
  sOff x5 0 fun x44 =>
  sLdC C x44 fun x45 =>
  sOff x5 1 fun x46 =>
  sLdC C x46 fun x47 =>
  sOff x5 3 fun x48 =>
  sLdC C x48 fun x49 =>
  sAdd .i64 x47 x49 fun x50 =>
  rect_of_c x41 x43 x45 x50 h_10 fun x51 h_11 => C h_11 ∧ (
  sOff x5 0 fun x52 =>
  sLdC C x52 fun x53 =>
  sOff x5 2 fun x54 =>
  sLdC C x54 fun x55 =>
  sAdd .i64 x53 x55 fun x56 =>
  sOff x5 1 fun x57 =>
  sLdC C x57 fun x58 =>
  sOff x2 0 fun x59 =>
  sLdC C x59 fun x60 =>
  sOff x2 2 fun x61 =>
  sLdC C x61 fun x62 =>
  sAdd .i64 x60 x62 fun x63 =>
  sOff x5 1 fun x64 =>
  sLdC C x64 fun x65 =>
  sOff x5 3 fun x66 =>
  sLdC C x66 fun x67 =>
  sAdd .i64 x65 x67 fun x68 =>
  rect_of_c x56 x58 x63 x68 h_11 fun x69 h_12 => C h_12 ∧ (
  sOff x2 0 fun x70 =>
  sLdC C x70 fun x71 =>
  sOff x5 1 fun x72 =>
  sLdC C x72 fun x73 =>
  sOff x5 3 fun x74 =>
  sLdC C x74 fun x75 =>
  sAdd .i64 x73 x75 fun x76 =>
  sOff x2 0 fun x77 =>
  sLdC C x77 fun x78 =>
  sOff x2 2 fun x79 =>
  sLdC C x79 fun x80 =>
  sAdd .i64 x78 x80 fun x81 =>
  sOff x2 1 fun x82 =>
  sLdC C x82 fun x83 =>
  sOff x2 3 fun x84 =>
  sLdC C x84 fun x85 =>
  sAdd .i64 x83 x85 fun x86 =>
  rect_of_c x71 x76 x81 x86 h_12 fun x87 h_13 => 
  sSlit h_13 #[.int .i64 0, .int .i64 0, .int .i64 0, .int .i64 0, .int .i64 0, .int .i64 0, .int .i64 0, .int .i64 0, .int .i64 0, .int .i64 0, .int .i64 0, .int .i64 0, .int .i64 0, .int .i64 0, .int .i64 0, .int .i64 0] [(0, 4, x39), (4, 4, x51), (8, 4, x69), (12, 4, x87)] 35 4 fun x88 h_14 => 
  sLen x88 fun x89 =>
  sLoop (S := Value × Value) (fun nxt s h => rect_Less_l1 R x88 x89 (fun x6' x90' h => nxt (x6', x90') h) s.1 s.2 h) ((.slice none 0 0), (.int .i64 0)) h_14))))))
set_option maxRecDepth 100000 in
theorem rect_Less_runs {x0 x1 : Value} {h : Heap} {R : Value → Heap → Prop} (H : rect_Less_S x0 x1 h R) : rect_Less_c x0 x1 h R := by
  unfold rect_Less_S at H
  refine runs_of (b := ⟨([x0, x1, undef, undef, undef, undef, undef, undef, undef, undef, undef, undef, undef, undef, undef, undef, undef, undef, undef, undef, undef, undef, undef, undef, undef, undef, undef, undef, undef, undef, undef, undef, undef, undef, undef, undef, undef, undef, undef, undef, undef, undef, undef, undef, undef, undef, undef, undef, undef, undef] ++ [undef, undef, undef, undef, undef, undef, undef, undef, undef, undef, undef, undef, undef, undef, undef, undef, undef, undef, undef, undef, undef, undef, undef, undef, undef, undef, undef, undef, undef, undef, undef, undef, undef, undef, undef, undef, undef, undef, undef, undef, undef, undef, undef, undef, undef, undef, undef, undef, undef, undef] ++ [undef, undef, undef]).toArray, []⟩) Try.call24 Try.func24 rfl (by kernel_rfl) (fun w0 HA => ?_)
  refine wp_seq ?_
  refine lwp_list ?_
  refine ls_d (d := some 2) (by kernel_rfl) (by kernel_rfl) HA (d_box (by kernel_rfl) H) (fun x2 h w H HA => ?_)
  refine ls_d (d := some 3) (by kernel_rfl) (by kernel_rfl) HA (d_box (by kernel_rfl) H) (fun x3 h_1 w_1 H HA_1 => ?_)
  refine ls_assign (x := (.slice none 0 0)) (by kernel_rfl) (by kernel_rfl) ?_
  refine ls_nil ?_
  refine then_normal ?_
  refine fr_eq (b := ⟨([x0, x1, x2, x3, (.slice none 0 0), undef, undef, undef, undef, undef, undef, undef, undef, undef, undef, undef, undef, undef, undef, undef, undef, undef, undef, undef, undef, undef, undef, undef, undef, undef, undef, undef, undef, undef, undef, undef, undef, undef, undef, undef, undef, undef, undef, undef, undef, undef, undef, undef, undef, undef] ++ [undef, undef, undef, undef, undef, undef, undef, undef, undef, undef, undef, undef, undef, undef, undef, undef, undef, undef, undef, undef, undef, undef, undef, undef, undef, undef, undef, undef, undef, undef, undef, undef, undef, undef, undef, undef, undef, undef, undef, undef, undef, undef, undef, undef, undef, undef, undef, undef, undef, undef] ++ [undef, undef, undef]).toArray, []⟩) (by kernel_rfl) ?_
  refine wp_seq ?_
  refine wp_seq ?_
  refine lwp_list ?_
  refine ls_y (d := some 9) (by kernel_rfl) (by kernel_rfl) HA_1 (y_ldn Try.isAgg35 Try.sizeOf35 (by kernel_rfl) H) (fun x9 H => ?_)
  refine ls_d (d := some 10) (by kernel_rfl) (by kernel_rfl) HA_1 (d_call (by kernel_rfl) (by kernel_rfl) H) (fun x10 h_2 w_2 H HA_2 => ?_)
  refine ls_p (d := some 11) (by kernel_rfl) (by kernel_rfl) (p_not (by kernel_rfl) H) (fun x11 H => ?_)
  refine ls_move (x := x11) (by kernel_rfl) (by kernel_rfl) ?_
  refine ls_orh [(), (), (), ()] (fun K a w => ∃ (D : Nat → Value) (x16 : Value) (h_3 : Heap), a = ⟨([x0, x1, x2, x3, (.slice none 0 0), undef, undef, undef, undef, x9, x10, x11, x11, (D 0), (D 1), (D 2), x16, undef, undef, undef, undef, undef, undef, undef, undef, undef, undef, undef, undef, undef, undef, undef, undef, undef, undef, undef, undef, undef, undef, undef, undef, undef, undef, undef, undef, undef, undef, undef, undef, undef] ++ [undef, undef, undef, undef, undef, undef, undef, undef, undef, undef, undef, undef, undef, undef, undef, undef, undef, undef, undef, undef, undef, undef, undef, undef, undef, undef, undef, undef, undef, undef, undef, undef, undef, undef, undef, undef, undef, undef, undef, undef, undef, undef, undef, undef, undef, undef, undef, undef, undef, undef] ++ [undef, undef, undef]).toArray, []⟩ ∧ At w0 w h_3 ∧ K x16 h_3) H (fun hb_1 H => ?_) (fun hb_1 H => ?_) ?_
  · refine ls_y (d := some 13) (by kernel_rfl) (by rw [hb_1]; kernel_rfl) HA_2 (y_ldn Try.isAgg35 Try.sizeOf35 (by kernel_rfl) H) (fun x13 H => ?_)
    refine ls_d (d := some 14) (by kernel_rfl) (by rw [hb_1]; kernel_rfl) HA_2 (d_call (by kernel_rfl) (by kernel_rfl) H) (fun x14 h_23 w_24 H HA_24 => ?_)
    refine ls_fr (b := ⟨([x0, x1, x2, x3, (.slice none 0 0), undef, undef, undef, undef, x9, x10, x11, x11, x13, x14, undef, undef, undef, undef, undef, undef, undef, undef, undef, undef, undef, undef, undef, undef, undef, undef, undef, undef, undef, undef, undef, undef, undef, undef, undef, undef, undef, undef, undef, undef, undef, undef, undef, undef, undef] ++ [undef, undef, undef, undef, undef, undef, undef, undef, undef, undef, undef, undef, undef, undef, undef, undef, undef, undef, undef, undef, undef, undef, undef, undef, undef, undef, undef, undef, undef, undef, undef, undef, undef, undef, undef, undef, undef, undef, undef, undef, undef, undef, undef, undef, undef, undef, undef, undef, undef, undef] ++ [undef, undef, undef]).toArray, []⟩) (by kernel_rfl) ?_
    refine ls_p (d := some 15) (by kernel_rfl) (by rw [hb_1]; kernel_rfl) (p_not (by kernel_rfl) H) (fun x15 H => ?_)
    refine ls_pick_f (y := x15) (by kernel_rfl) (by rw [hb_1]; kernel_rfl) (by kernel_rfl) ?_
    refine ls_nil ?_
    refine then_normal ?_
    exact ⟨(fun i => ([x13, x14, x15]).getD i undef), x15, h_23, by kernel_rfl, HA_24, H⟩
  · refine ls_skip (d := some 13) (by kernel_rfl) (by rw [hb_1]; kernel_rfl) ?_
    refine ls_skip (d := some 14) (by kernel_rfl) (by rw [hb_1]; kernel_rfl) ?_
    refine ls_fr (b := ⟨([x0, x1, x2, x3, (.slice none 0 0), undef, undef, undef, undef, x9, x10, x11, x11, undef, undef, undef, undef, undef, undef, undef, undef, undef, undef, undef, undef, undef, undef, undef, undef, undef, undef, undef, undef, undef, undef, undef, undef, undef, undef, undef, undef, undef, undef, undef, undef, undef, undef, undef, undef, undef] ++ [undef, undef, undef, undef, undef, undef, undef, undef, undef, undef, undef, undef, undef, undef, undef, undef, undef, undef, undef, undef, undef, undef, undef, undef, undef, undef, undef, undef, undef, undef, undef, undef, undef, undef, undef, undef, undef, undef, undef, undef, undef, undef, undef, undef, undef, undef, undef, undef, undef, undef] ++ [undef, undef, undef]).toArray, []⟩) (by kernel_rfl) ?_
    refine ls_skip (d := some 15) (by kernel_rfl) (by rw [hb_1]; kernel_rfl) ?_
    refine ls_pick_t (x := (.bool true)) (by kernel_rfl) (by rw [hb_1]; kernel_rfl) (by kernel_rfl) ?_
    refine ls_nil ?_
    refine then_normal ?_
    exact ⟨(fun i => ([undef, undef, undef]).getD i undef), (.bool true), h_2, by kernel_rfl, HA_2, H⟩
  · rintro _ w_3 ⟨D, x16, h_3, rfl, HA_3, H⟩
    refine ls_move (x := x16) (by kernel_rfl) (by kernel_rfl) ?_
    refine ls_orh [(), (), ()] (fun K a w => ∃ (D_1 : Nat → Value) (x20 : Value) (h_4 : Heap), a = ⟨([x0, x1, x2, x3, (.slice none 0 0), undef, undef, undef, undef, x9, x10, x11, x11, (D 0), (D 1), (D 2), x16, x16, (D_1 0), (D_1 1), x20, undef, undef, undef, undef, undef, undef, undef, undef, undef, undef, undef, undef, undef, undef, undef, undef, undef, undef, undef, undef, undef, undef, undef, undef, undef, undef, undef, undef, undef] ++ [undef, undef, undef, undef, undef, undef, undef, undef, undef, undef, undef, undef, undef, undef, undef, undef, undef, undef, undef, undef, undef, undef, undef, undef, undef, undef, undef, undef, undef, undef, undef, undef, undef, undef, undef, undef, undef, undef, undef, undef, undef, undef, undef, undef, undef, undef, undef, undef, undef, undef] ++ [undef, undef, undef]).toArray, []⟩ ∧ At w0 w h_4 ∧ K x20 h_4) H (fun hb H => ?_) (fun hb H => ?_) ?_
    · refine ls_y (d := some 18) (by kernel_rfl) (by rw [hb]; kernel_rfl) HA_3 (y_ldn Try.isAgg35 Try.sizeOf35 (by kernel_rfl) H) (fun x18 H => ?_)
      refine ls_d (d := some 19) (by kernel_rfl) (by rw [hb]; kernel_rfl) HA_3 (d_call (by kernel_rfl) (by kernel_rfl) H) (fun x19 h_22 w_23 H HA_23 => ?_)
      refine ls_pick_f (y := x19) (by kernel_rfl) (by rw [hb]; kernel_rfl) (by kernel_rfl) ?_
      refine ls_nil ?_
      refine then_normal ?_
      exact ⟨(fun i => ([x18, x19]).getD i undef), x19, h_22, by kernel_rfl, HA_23, H⟩
    · refine ls_skip (d := some 18) (by kernel_rfl) (by rw [hb]; kernel_rfl) ?_
      refine ls_skip (d := some 19) (by kernel_rfl) (by rw [hb]; kernel_rfl) ?_
      refine ls_pick_t (x := (.bool true)) (by kernel_rfl) (by rw [hb]; kernel_rfl) (by kernel_rfl) ?_
      refine ls_nil ?_
      refine then_normal ?_
      exact ⟨(fun i => ([undef, undef]).getD i undef), (.bool true), h_3, by kernel_rfl, HA_3, H⟩
    · rintro _ w_4 ⟨D_1, x20, h_4, rfl, HA_4, H⟩
      refine ls_nil ?_
      refine then_normal ?_
      refine fr_eq (b := ⟨([x0, x1, x2, x3, (.slice none 0 0), undef, undef, undef, undef, x9, x10, x11, x11, (D 0), (D 1), (D 2), x16, x16, (D_1 0), (D_1 1), x20, undef, undef, undef, undef, undef, undef, undef, undef, undef, undef, undef, undef, undef, undef, undef, undef, undef, undef, undef, undef, undef, undef, undef, undef, undef, undef, undef, undef, undef] ++ [undef, undef, undef, undef, undef, undef, undef, undef, undef, undef, undef, undef, undef, undef, undef, undef, undef, undef, undef, undef, undef, undef, undef, undef, undef, undef, undef, undef, undef, undef, undef, undef, undef, undef, undef, undef, undef, undef, undef, undef, undef, undef, undef, undef, undef, undef, undef, undef, undef, undef] ++ [undef, undef, undef]).toArray, []⟩) (by kernel_rfl) ?_
      refine wp_if rfl H (fun H => ?_) (fun H => ?_)
      · refine wp_seq ?_
        refine lwp_list ?_
        refine ls_assign (x := (.slice none 0 0)) (by kernel_rfl) (by kernel_rfl) ?_
        refine ls_nil ?_
        refine then_normal ?_
        refine fr_eq (b := ⟨([x0, x1, x2, x3, (.slice none 0 0), undef, undef, undef, undef, x9, x10, x11, x11, (D 0), (D 1), (D 2), x16, x16, (D_1 0), (D_1 1), x20, undef, undef, undef, undef, undef, undef, undef, undef, undef, undef, undef, undef, undef, undef, undef, undef, undef, undef, undef, undef, undef, undef, undef, undef, undef, undef, undef, undef, undef] ++ [undef, undef, undef, undef, undef, undef, undef, undef, undef, undef, undef, undef, undef, undef, undef, undef, undef, undef, undef, undef, undef, undef, undef, undef, undef, undef, undef, undef, undef, undef, undef, undef, undef, undef, undef, undef, undef, undef, undef, undef, undef, undef, undef, undef, undef, undef, undef, undef, undef, undef] ++ [undef, undef, undef]).toArray, []⟩) (by kernel_rfl) ?_
        refine wp_ret ?_
        refine then_ret ?_
        exact end1 (Try.results24) (by kernel_rfl) (by kernel_rfl) HA_4 H _ (.inr rfl)
      · refine wp_skip ?_
        refine then_normal ?_
        refine fr_eq (b := ⟨([x0, x1, x2, x3, (.slice none 0 0), undef, undef, undef, undef, x9, x10, x11, x11, (D 0), (D 1), (D 2), x16, x16, (D_1 0), (D_1 1), x20, undef, undef, undef, undef, undef, undef, undef, undef, undef, undef, undef, undef, undef, undef, undef, undef, undef, undef, undef, undef, undef, undef, undef, undef, undef, undef, undef, undef, undef] ++ [undef, undef, undef, undef, undef, undef, undef, undef, undef, undef, undef, undef, undef, undef, undef, undef, undef, undef, undef, undef, undef, undef, undef, undef, undef, undef, undef, undef, undef, undef, undef, undef, undef, undef, undef, undef, undef, undef, undef, undef, undef, undef, undef, undef, undef, undef, undef, undef, undef, undef] ++ [undef, undef, undef]).toArray, []⟩) (by kernel_rfl) ?_
        refine wp_seq ?_
        refine lwp_list ?_
        refine ls_y (d := some 21) (by kernel_rfl) (by kernel_rfl) HA_4 (y_ldn Try.isAgg35 Try.sizeOf35 (by kernel_rfl) H) (fun x21 H => ?_)
        refine ls_y (d := some 22) (by kernel_rfl) (by kernel_rfl) HA_4 (y_ldn Try.isAgg35 Try.sizeOf35 (by kernel_rfl) H) (fun x22 H => ?_)
        refine ls_d (d := some 23) (by kernel_rfl) (by kernel_rfl) HA_4 (d_call (by kernel_rfl) (by kernel_rfl) H) (fun x23 h_5 w_5 H HA_5 => ?_)
        refine ls_d (d := some 5) (by kernel_rfl) (by kernel_rfl) HA_5 (d_alloc Try.zeroValue35 H) (fun x5 h_6 w_6 H HA_6 => ?_)
        refine ls_d (d := none) (by kernel_rfl) (by kernel_rfl) HA_6 (d_stn Try.sizeOf35 (by kernel_rfl) (by kernel_rfl) H) (fun _ h_7 w_7 H HA_7 => ?_)
        refine ls_nil ?_
        refine then_normal ?_
        refine fr_eq (b := ⟨([x0, x1, x2, x3, (.slice none 0 0), x5, undef, undef, undef, x9, x10, x11, x11, (D 0), (D 1), (D 2), x16, x16, (D_1 0), (D_1 1), x20, x21, x22, x23, undef, undef, undef, undef, undef, undef, undef, undef, undef, undef, undef, undef, undef, undef, undef, undef, undef, undef, undef, undef, undef, undef, undef, undef, undef, undef] ++ [undef, undef, undef, undef, undef, undef, undef, undef, undef, undef, undef, undef, undef, undef, undef, undef, undef, undef, undef, undef, undef, undef, undef, undef, undef, undef, undef, undef, undef, undef, undef, undef, undef, undef, undef, undef, undef, undef, undef, undef, undef, undef, undef, undef, undef, undef, undef, undef, undef, undef] ++ [undef, undef, undef]).toArray, []⟩) (by kernel_rfl) ?_
        refine wp_seq ?_
        refine wp_seq ?_
        refine lwp_list ?_
        refine ls_y (d := some 24) (by kernel_rfl) (by kernel_rfl) HA_7 (y_ldn Try.isAgg35 Try.sizeOf35 (by kernel_rfl) H) (fun x24 H => ?_)
        refine ls_d (d := some 25) (by kernel_rfl) (by kernel_rfl) HA_7 (d_call (by kernel_rfl) (by kernel_rfl) H) (fun x25 h_8 w_8 H HA_8 => ?_)
        refine ls_nil ?_
        refine then_normal ?_
        refine fr_eq (b := ⟨([x0, x1, x2, x3, (.slice none 0 0), x5, undef, undef, undef, x9, x10, x11, x11, (D 0), (D 1), (D 2), x16, x16, (D_1 0), (D_1 1), x20, x21, x22, x23, x24, x25, undef, undef, undef, undef, undef, undef, undef, undef, undef, undef, undef, undef, undef, undef, undef, undef, undef, undef, undef, undef, undef, undef, undef, undef] ++ [undef, undef, undef, undef, undef, undef, undef, undef, undef, undef, undef, undef, undef, undef, undef, undef, undef, undef, undef, undef, undef, undef, undef, undef, undef, undef, undef, undef, undef, undef, undef, undef, undef, undef, undef, undef, undef, undef, undef, undef, undef, undef, undef, undef, undef, undef, undef, undef, undef, undef] ++ [undef, undef, undef]).toArray, []⟩) (by kernel_rfl) ?_
        refine wp_if rfl H (fun H => ?_) (fun H => ?_)
        · refine wp_seq ?_
          refine lwp_list ?_
          refine ls_y (d := some 26) (by kernel_rfl) (by kernel_rfl) HA_8 (y_ldn Try.isAgg35 Try.sizeOf35 (by kernel_rfl) H) (fun x26 H => ?_)
          refine ls_d (d := some 27) (by kernel_rfl) (by kernel_rfl) HA_8 (d_slit (zc := #[.int .i64 0, .int .i64 0, .int .i64 0, .int .i64 0]) Try.underlying37 Try.sizeOf35 (by decide) (.inr ⟨by decide, _, Try.zeroValue35, (by kernel_rfl)⟩) (by kernel_rfl) (by kernel_rfl) H) (fun x27 h_9 w_9 H HA_9 => ?_)
          refine ls_assign (x := x27) (by kernel_rfl) (by kernel_rfl) ?_
          refine ls_nil ?_
          refine then_normal ?_
          refine fr_eq (b := ⟨([x0, x1, x2, x3, x27, x5, undef, undef, undef, x9, x10, x11, x11, (D 0), (D 1), (D 2), x16, x16, (D_1 0), (D_1 1), x20, x21, x22, x23, x24, x25, x26, x27, undef, undef, undef, undef, undef, undef, undef, undef, undef, undef, undef, undef, undef, undef, undef, undef, undef, undef, undef, undef, undef, undef] ++ [undef, undef, undef, undef, undef, undef, undef, undef, undef, undef, undef, undef, undef, undef, undef, undef, undef, undef, undef, undef, undef, undef, undef, undef, undef, undef, undef, undef, undef, undef, undef, undef, undef, undef, undef, undef, undef, undef, undef, undef, undef, undef, undef, undef, undef, undef, undef, undef, undef, undef] ++ [undef, undef, undef]).toArray, []⟩) (by kernel_rfl) ?_
          refine wp_ret ?_
          refine then_ret ?_
          exact end1 (Try.results24) (by kernel_rfl) (by kernel_rfl) HA_9 H _ (.inr rfl)
        · refine wp_skip ?_
          refine then_normal ?_
          refine fr_eq (b := ⟨([x0, x1, x2, x3, (.slice none 0 0), x5, undef, undef, undef, x9, x10, x11, x11, (D 0), (D 1), (D 2), x16, x16, (D_1 0), (D_1 1), x20, x21, x22, x23, x24, x25, undef, undef, undef, undef, undef, undef, undef, undef, undef, undef, undef, undef, undef, undef, undef, undef, undef, undef, undef, undef, undef, undef, undef, undef] ++ [undef, undef, undef, undef, undef, undef, undef, undef, undef, undef, undef, undef, undef, undef, undef, undef, undef, undef, undef, undef, undef, undef, undef, undef, undef, undef, undef, undef, undef, undef, undef, undef, undef, undef, undef, undef, undef, undef, undef, undef, undef, undef, undef, undef, undef, undef, undef, undef, undef, undef] ++ [undef, undef, undef]).toArray, []⟩) (by kernel_rfl) ?_
          refine wp_seq ?_
          refine lwp_list ?_
          refine ls_assign (x := (.slice none 0 0)) (by kernel_rfl) (by kernel_rfl) ?_
          refine ls_nil ?_
          refine then_normal ?_
          refine fr_eq (b := ⟨([x0, x1, x2, x3, (.slice none 0 0), x5, (.slice none 0 0), undef, undef, x9, x10, x11, x11, (D 0), (D 1), (D 2), x16, x16, (D_1 0), (D_1 1), x20, x21, x22, x23, x24, x25, undef, undef, undef, undef, undef, undef, undef, undef, undef, undef, undef, undef, undef, undef, undef, undef, undef, undef, undef, undef, undef, undef, undef, undef] ++ [undef, undef, undef, undef, undef, undef, undef, undef, undef, undef, undef, undef, undef, undef, undef, undef, undef, undef, undef, undef, undef, undef, undef, undef, undef, undef, undef, undef, undef, undef, undef, undef, undef, undef, undef, undef, undef, undef, undef, undef, undef, undef, undef, undef, undef, undef, undef, undef, undef, undef] ++ [undef, undef, undef]).toArray, []⟩) (by kernel_rfl) ?_
          refine wp_seq ?_
          refine wp_seq ?_
          obtain ⟨C, HC, H⟩ := H
          refine lwp_mx (Nat.testBit 1729384455941916672) (Nat.testBit 2199031646208) (Nat.testBit 7308028668416447317) [0, 1, 0, 4, 0, 16, 0, 64, 240, 0, 512, 2047, 0, 4096, 0, 16384, 0, 65536, 0, 262144, 0, 1048576, 3932160, 8388607, 0, 16777216, 0, 67108864, 251658240, 0, 536870912, 0, 2147483648, 0, 8589934592, 32212254720, 0, 68719476736, 0, 274877906944, 1030792151040, 2199023255551, 0, 4398046511104, 0, 17592186044416, 0, 70368744177664, 263882790666240, 0, 562949953421312, 0, 2251799813685248, 8444249301319680, 0, 18014398509481984, 0, 72057594037927936, 270215977642229760, 576460752303423487, 1152921504606846975, 2305843009213693951, 0] C [0, 1, 2, 3, 4, 5, 6, 7, 8, 9, 10, 11, 12, 13, 14, 15, 16, 17, 18, 19, 20, 21, 22, 23, 24, 25, 26, 27, 28, 29, 30, 31, 32, 33, 34, 35, 36, 37, 38, 39, 40, 41, 42, 43, 44, 45, 46, 47, 48, 49, 50, 51, 52, 53, 54, 55, 56, 57, 58, 59, 60, 61, 62] (by kernel_rfl) (by kernel_rfl) (by kernel_rfl) HA_8 HC ?_
          intro w_10 HA_10
          refine lm_p (d := some 28) (by kernel_rfl) rfl (by kernel_rfl) (by kernel_rfl) (p_off Try.underlying35 rfl (fun w => ⟨_, Try.sizeOf3 w⟩) rfl (by kernel_rfl) H) (fun x28 H => ?_)
          refine lm_f (d := some 29) (by kernel_rfl) rfl (by kernel_rfl) (by kernel_rfl) (by kernel_rfl) (c_ld Try.isAgg3 (by kernel_rfl) H) (fun x29 H => ?_)
          refine lm_p (d := some 30) (by kernel_rfl) rfl (by kernel_rfl) (by kernel_rfl) (p_off Try.underlying35 rfl (fun w => ⟨_, Try.sizeOf3 w⟩) rfl (by kernel_rfl) H) (fun x30 H => ?_)
          refine lm_f (d := some 31) (by kernel_rfl) rfl (by kernel_rfl) (by kernel_rfl) (by kernel_rfl) (c_ld Try.isAgg3 (by kernel_rfl) H) (fun x31 H => ?_)
          refine lm_p (d := some 32) (by kernel_rfl) rfl (by kernel_rfl) (by kernel_rfl) (p_off Try.underlying35 rfl (fun w => ⟨_, Try.sizeOf3 w⟩) rfl (by kernel_rfl) H) (fun x32 H => ?_)
          refine lm_f (d := some 33) (by kernel_rfl) rfl (by kernel_rfl) (by kernel_rfl) (by kernel_rfl) (c_ld Try.isAgg3 (by kernel_rfl) H) (fun x33 H => ?_)
          refine lm_fr (b := ⟨([x0, x1, x2, x3, (.slice none 0 0), x5, (.slice none 0 0), undef, undef, x9, x10, x11, x11, (D 0), (D 1), (D 2), x16, x16, (D_1 0), (D_1 1), x20, x21, x22, x23, x24, x25, undef, undef, x28, x29, x30, x31, x32, x33, undef, undef, undef, undef, undef, undef, undef, undef, undef, undef, undef, undef, undef, undef, undef, undef] ++ [undef, undef, undef, undef, undef, undef, undef, undef, undef, undef, undef, undef, undef, undef, undef, undef, undef, undef, undef, undef, undef, undef, undef, undef, undef, undef, undef, undef, undef, undef, undef, undef, undef, undef, undef, undef, undef, undef, undef, undef, undef, undef, undef, undef, undef, undef, undef, undef, undef, undef] ++ [undef, undef, undef]).toArray, []⟩) (by kernel_rfl) ?_
          refine lm_p (d := some 34) (by kernel_rfl) rfl (by kernel_rfl) (by kernel_rfl) (p_off Try.underlying35 rfl (fun w => ⟨_, Try.sizeOf3 w⟩) rfl (by kernel_rfl) H) (fun x34 H => ?_)
          refine lm_f (d := some 35) (by kernel_rfl) rfl (by kernel_rfl) (by kernel_rfl) (by kernel_rfl) (c_ld Try.isAgg3 (by kernel_rfl) H) (fun x35 H => ?_)
          refine lm_p (d := some 36) (by kernel_rfl) rfl (by kernel_rfl) (by kernel_rfl) (p_add (by kernel_rfl) (by kernel_rfl) H) (fun x36 H => ?_)
          refine lm_p (d := some 37) (by kernel_rfl) rfl (by kernel_rfl) (by kernel_rfl) (p_off Try.underlying35 rfl (fun w => ⟨_, Try.sizeOf3 w⟩) rfl (by kernel_rfl) H) (fun x37 H => ?_)
          refine lm_f (d := some 38) (by kernel_rfl) rfl (by kernel_rfl) (by kernel_rfl) (by kernel_rfl) (c_ld Try.isAgg3 (by kernel_rfl) H) (fun x38 H => ?_)
          refine lm_dc (d := some 39) (by kernel_rfl) rfl (by kernel_rfl) (by kernel_rfl) HA_10 (d_call (by kernel_rfl) (by kernel_rfl) H) (fun x39 h_10 w_11 H HA_11 => ?_)
          refine lm_fr (b := ⟨([x0, x1, x2, x3, (.slice none 0 0), x5, (.slice none 0 0), undef, undef, x9, x10, x11, x11, (D 0), (D 1), (D 2), x16, x16, (D_1 0), (D_1 1), x20, x21, x22, x23, x24, x25, undef, undef, x28, x29, x30, x31, x32, x33, x34, x35, x36, x37, x38, x39, undef, undef, undef, undef, undef, undef, undef, undef, undef, undef] ++ [undef, undef, undef, undef, undef, undef, undef, undef, undef, undef, undef, undef, undef, undef, undef, undef, undef, undef, undef, undef, undef, undef, undef, undef, undef, undef, undef, undef, undef, undef, undef, undef, undef, undef, undef, undef, undef, undef, undef, undef, undef, undef, undef, undef, undef, undef, undef, undef, undef, undef] ++ [undef, undef, undef]).toArray, []⟩) (by kernel_rfl) ?_
          refine lm_p (d := some 40) (by kernel_rfl) rfl (by kernel_rfl) (by kernel_rfl) (p_off Try.underlying35 rfl (fun w => ⟨_, Try.sizeOf3 w⟩) rfl (by kernel_rfl) H) (fun x40 H => ?_)
          refine lm_f (d := some 41) (by kernel_rfl) rfl (by kernel_rfl) (by kernel_rfl) (by kernel_rfl) (c_ld Try.isAgg3 (by kernel_rfl) H) (fun x41 H => ?_)
          refine lm_p (d := some 42) (by kernel_rfl) rfl (by kernel_rfl) (by kernel_rfl) (p_off Try.underlying35 rfl (fun w => ⟨_, Try.sizeOf3 w⟩) rfl (by kernel_rfl) H) (fun x42 H => ?_)
          refine lm_f (d := some 43) (by kernel_rfl) rfl (by kernel_rfl) (by kernel_rfl) (by kernel_rfl) (c_ld Try.isAgg3 (by kernel_rfl) H) (fun x43 H => ?_)
          refine lm_p (d := some 44) (by kernel_rfl) rfl (by kernel_rfl) (by kernel_rfl) (p_off Try.underlying35 rfl (fun w => ⟨_, Try.sizeOf3 w⟩) rfl (by kernel_rfl) H) (fun x44 H => ?_)
          refine lm_f (d := some 45) (by kernel_rfl) rfl (by kernel_rfl) (by kernel_rfl) (by kernel_rfl) (c_ld Try.isAgg3 (by kernel_rfl) H) (fun x45 H => ?_)
          refine lm_fr (b := ⟨([x0, x1, x2, x3, (.slice none 0 0), x5, (.slice none 0 0), undef, undef, x9, x10, x11, x11, (D 0), (D 1), (D 2), x16, x16, (D_1 0), (D_1 1), x20, x21, x22, x23, x24, x25, undef, undef, x28, x29, x30, x31, x32, x33, x34, x35, x36, x37, x38, x39, x40, x41, x42, x43, x44, x45, undef, undef, undef, undef] ++ [undef, undef, undef, undef, undef, undef, undef, undef, undef, undef, undef, undef, undef, undef, undef, undef, undef, undef, undef, undef, undef, undef, undef, undef, undef, undef, undef, undef, undef, undef, undef, undef, undef, undef, undef, undef, undef, undef, undef, undef, undef, undef, undef, undef, undef, undef, undef, undef, undef, undef] ++ [undef, undef, undef]).toArray, []⟩) (by kernel_rfl) ?_
          refine lm_p (d := some 46) (by kernel_rfl) rfl (by kernel_rfl) (by kernel_rfl) (p_off Try.underlying35 rfl (fun w => ⟨_, Try.sizeOf3 w⟩) rfl (by kernel_rfl) H) (fun x46 H => ?_)
          refine lm_f (d := some 47) (by kernel_rfl) rfl (by kernel_rfl) (by kernel_rfl) (by kernel_rfl) (c_ld Try.isAgg3 (by kernel_rfl) H) (fun x47 H => ?_)
          refine lm_p (d := some 48) (by kernel_rfl) rfl (by kernel_rfl) (by kernel_rfl) (p_off Try.underlying35 rfl (fun w => ⟨_, Try.sizeOf3 w⟩) rfl (by kernel_rfl) H) (fun x48 H => ?_)
          refine lm_f (d := some 49) (by kernel_rfl) rfl (by kernel_rfl) (by kernel_rfl) (by kernel_rfl) (c_ld Try.isAgg3 (by kernel_rfl) H) (fun x49 H => ?_)
          refine lm_p (d := some 50) (by kernel_rfl) rfl (by kernel_rfl) (by kernel_rfl) (p_add (by kernel_rfl) (by kernel_rfl) H) (fun x50 H => ?_)
          refine lm_dc (d := some 51) (by kernel_rfl) rfl (by kernel_rfl) (by kernel_rfl) HA_11 (d_call (by kernel_rfl) (by kernel_rfl) H) (fun x51 h_11 w_12 H HA_12 => ?_)
          refine lm_fr (b := ⟨([x0, x1, x2, x3, (.slice none 0 0), x5, (.slice none 0 0), undef, undef, x9, x10, x11, x11, (D 0), (D 1), (D 2), x16, x16, (D_1 0), (D_1 1), x20, x21, x22, x23, x24, x25, undef, undef, x28, x29, x30, x31, x32, x33, x34, x35, x36, x37, x38, x39, x40, x41, x42, x43, x44, x45, x46, x47, x48, x49] ++ [x50, x51, undef, undef, undef, undef, undef, undef, undef, undef, undef, undef, undef, undef, undef, undef, undef, undef, undef, undef, undef, undef, undef, undef, undef, undef, undef, undef, undef, undef, undef, undef, undef, undef, undef, undef, undef, undef, undef, undef, undef, undef, undef, undef, undef, undef, undef, undef, undef, undef] ++ [undef, undef, undef]).toArray, []⟩) (by kernel_rfl) ?_
          refine lm_p (d := some 52) (by kernel_rfl) rfl (by kernel_rfl) (by kernel_rfl) (p_off Try.underlying35 rfl (fun w => ⟨_, Try.sizeOf3 w⟩) rfl (by kernel_rfl) H) (fun x52 H => ?_)
          refine lm_f (d := some 53) (by kernel_rfl) rfl (by kernel_rfl) (by kernel_rfl) (by kernel_rfl) (c_ld Try.isAgg3 (by kernel_rfl) H) (fun x53 H => ?_)
          refine lm_p (d := some 54) (by kernel_rfl) rfl (by kernel_rfl) (by kernel_rfl) (p_off Try.underlying35 rfl (fun w => ⟨_, Try.sizeOf3 w⟩) rfl (by kernel_rfl) H) (fun x54 H => ?_)
          refine lm_f (d := some 55) (by kernel_rfl) rfl (by kernel_rfl) (by kernel_rfl) (by kernel_rfl) (c_ld Try.isAgg3 (by kernel_rfl) H) (fun x55 H => ?_)
          refine lm_p (d := some 56) (by kernel_rfl) rfl (by kernel_rfl) (by kernel_rfl) (p_add (by kernel_rfl) (by kernel_rfl) H) (fun x56 H => ?_)
          refine lm_p (d := some 57) (by kernel_rfl) rfl (by kernel_rfl) (by kernel_rfl) (p_off Try.underlying35 rfl (fun w => ⟨_, Try.sizeOf3 w⟩) rfl (by kernel_rfl) H) (fun x57 H => ?_)
          refine lm_fr (b := ⟨([x0, x1, x2, x3, (.slice none 0 0), x5, (.slice none 0 0), undef, undef, x9, x10, x11, x11, (D 0), (D 1), (D 2), x16, x16, (D_1 0), (D_1 1), x20, x21, x22, x23, x24, x25, undef, undef, x28, x29, x30, x31, x32, x33, x34, x35, x36, x37, x38, x39, x40, x41, x42, x43, x44, x45, x46, x47, x48, x49] ++ [x50, x51, x52, x53, x54, x55, x56, x57, undef, undef, undef, undef, undef, undef, undef, undef, undef, undef, undef, undef, undef, undef, undef, undef, undef, undef, undef, undef, undef, undef, undef, undef, undef, undef, undef, undef, undef, undef, undef, undef, undef, undef, undef, undef, undef, undef, undef, undef, undef, undef] ++ [undef, undef, undef]).toArray, []⟩) (by kernel_rfl) ?_
          refine lm_f (d := some 58) (by kernel_rfl) rfl (by kernel_rfl) (by kernel_rfl) (by kernel_rfl) (c_ld Try.isAgg3 (by kernel_rfl) H) (fun x58 H => ?_)
          refine lm_p (d := some 59) (by kernel_rfl) rfl (by kernel_rfl) (by kernel_rfl) (p_off Try.underlying35 rfl (fun w => ⟨_, Try.sizeOf3 w⟩) rfl (by kernel_rfl) H) (fun x59 H => ?_)
          refine lm_f (d := some 60) (by kernel_rfl) rfl (by kernel_rfl) (by kernel_rfl) (by kernel_rfl) (c_ld Try.isAgg3 (by kernel_rfl) H) (fun x60 H => ?_)
          refine lm_p (d := some 61) (by kernel_rfl) rfl (by kernel_rfl) (by kernel_rfl) (p_off Try.underlying35 rfl (fun w => ⟨_, Try.sizeOf3 w⟩) rfl (by kernel_rfl) H) (fun x61 H => ?_)
          refine lm_f (d := some 62) (by kernel_rfl) rfl (by kernel_rfl) (by kernel_rfl) (by kernel_rfl) (c_ld Try.isAgg3 (by kernel_rfl) H) (fun x62 H => ?_)
          refine lm_p (d := some 63) (by kernel_rfl) rfl (by kernel_rfl) (by kernel_rfl) (p_add (by kernel_rfl) (by kernel_rfl) H) (fun x63 H => ?_)
          refine lm_fr (b := ⟨([x0, x1, x2, x3, (.slice none 0 0), x5, (.slice none 0 0), undef, undef, x9, x10, x11, x11, (D 0), (D 1), (D 2), x16, x16, (D_1 0), (D_1 1), x20, x21, x22, x23, x24, x25, undef, undef, x28, x29, x30, x31, x32, x33, x34, x35, x36, x37, x38, x39, x40, x41, x42, x43, x44, x45, x46, x47, x48, x49] ++ [x50, x51, x52, x53, x54, x55, x56, x57, x58, x59, x60, x61, x62, x63, undef, undef, undef, undef, undef, undef, undef, undef, undef, undef, undef, undef, undef, undef, undef, undef, undef, undef, undef, undef, undef, undef, undef, undef, undef, undef, undef, undef, undef, undef, undef, undef, undef, undef, undef, undef] ++ [undef, undef, undef]).toArray, []⟩) (by kernel_rfl) ?_
          refine lm_p (d := some 64) (by kernel_rfl) rfl (by kernel_rfl) (by kernel_rfl) (p_off Try.underlying35 rfl (fun w => ⟨_, Try.sizeOf3 w⟩) rfl (by kernel_rfl) H) (fun x64 H => ?_)
          refine lm_f (d := some 65) (by kernel_rfl) rfl (by kernel_rfl) (by kernel_rfl) (by kernel_rfl) (c_ld Try.isAgg3 (by kernel_rfl) H) (fun x65 H => ?_)
          refine lm_p (d := some 66) (by kernel_rfl) rfl (by kernel_rfl) (by kernel_rfl) (p_off Try.underlying35 rfl (fun w => ⟨_, Try.sizeOf3 w⟩) rfl (by kernel_rfl) H) (fun x66 H => ?_)
          refine lm_f (d := some 67) (by kernel_rfl) rfl (by kernel_rfl) (by kernel_rfl) (by kernel_rfl) (c_ld Try.isAgg3 (by kernel_rfl) H) (fun x67 H => ?_)
          refine lm_p (d := some 68) (by kernel_rfl) rfl (by kernel_rfl) (by kernel_rfl) (p_add (by kernel_rfl) (by kernel_rfl) H) (fun x68 H => ?_)
          refine lm_dc (d := some 69) (by kernel_rfl) rfl (by kernel_rfl) (by kernel_rfl) HA_12 (d_call (by kernel_rfl) (by kernel_rfl) H) (fun x69 h_12 w_13 H HA_13 => ?_)
          refine lm_fr (b := ⟨([x0, x1, x2, x3, (.slice none 0 0), x5, (.slice none 0 0), undef, undef, x9, x10, x11, x11, (D 0), (D 1), (D 2), x16, x16, (D_1 0), (D_1 1), x20, x21, x22, x23, x24, x25, undef, undef, x28, x29, x30, x31, x32, x33, x34, x35, x36, x37, x38, x39, x40, x41, x42, x43, x44, x45, x46, x47, x48, x49] ++ [x50, x51, x52, x53, x54, x55, x56, x57, x58, x59, x60, x61, x62, x63, x64, x65, x66, x67, x68, x69, undef, undef, undef, undef, undef, undef, undef, undef, undef, undef, undef, undef, undef, undef, undef, undef, undef, undef, undef, undef, undef, undef, undef, undef, undef, undef, undef, undef, undef, undef] ++ [undef, undef, undef]).toArray, []⟩) (by kernel_rfl) ?_
          refine lm_p (d := some 70) (by kernel_rfl) rfl (by kernel_rfl) (by kernel_rfl) (p_off Try.underlying35 rfl (fun w => ⟨_, Try.sizeOf3 w⟩) rfl (by kernel_rfl) H) (fun x70 H => ?_)
          refine lm_f (d := some 71) (by kernel_rfl) rfl (by kernel_rfl) (by kernel_rfl) (by kernel_rfl) (c_ld Try.isAgg3 (by kernel_rfl) H) (fun x71 H => ?_)
          refine lm_p (d := some 72) (by kernel_rfl) rfl (by kernel_rfl) (by kernel_rfl) (p_off Try.underlying35 rfl (fun w => ⟨_, Try.sizeOf3 w⟩) rfl (by kernel_rfl) H) (fun x72 H => ?_)
          refine lm_f (d := some 73) (by kernel_rfl) rfl (by kernel_rfl) (by kernel_rfl) (by kernel_rfl) (c_ld Try.isAgg3 (by kernel_rfl) H) (fun x73 H => ?_)
          refine lm_p (d := some 74) (by kernel_rfl) rfl (by kernel_rfl) (by kernel_rfl) (p_off Try.underlying35 rfl (fun w => ⟨_, Try.sizeOf3 w⟩) rfl (by kernel_rfl) H) (fun x74 H => ?_)
          refine lm_f (d := some 75) (by kernel_rfl) rfl (by kernel_rfl) (by kernel_rfl) (by kernel_rfl) (c_ld Try.isAgg3 (by kernel_rfl) H) (fun x75 H => ?_)
          refine lm_fr (b := ⟨([x0, x1, x2, x3, (.slice none 0 0), x5, (.slice none 0 0), undef, undef, x9, x10, x11, x11, (D 0), (D 1), (D 2), x16, x16, (D_1 0), (D_1 1), x20, x21, x22, x23, x24, x25, undef, undef, x28, x29, x30, x31, x32, x33, x34, x35, x36, x37, x38, x39, x40, x41, x42, x43, x44, x45, x46, x47, x48, x49] ++ [x50, x51, x52, x53, x54, x55, x56, x57, x58, x59, x60, x61, x62, x63, x64, x65, x66, x67, x68, x69, x70, x71, x72, x73, x74, x75, undef, undef, undef, undef, undef, undef, undef, undef, undef, undef, undef, undef, undef, undef, undef, undef, undef, undef, undef, undef, undef, undef, undef, undef] ++ [undef, undef, undef]).toArray, []⟩) (by kernel_rfl) ?_
          refine lm_p (d := some 76) (by kernel_rfl) rfl (by kernel_rfl) (by kernel_rfl) (p_add (by kernel_rfl) (by kernel_rfl) H) (fun x76 H => ?_)
          refine lm_p (d := some 77) (by kernel_rfl) rfl (by kernel_rfl) (by kernel_rfl) (p_off Try.underlying35 rfl (fun w => ⟨_, Try.sizeOf3 w⟩) rfl (by kernel_rfl) H) (fun x77 H => ?_)
          refine lm_f (d := some 78) (by kernel_rfl) rfl (by kernel_rfl) (by kernel_rfl) (by kernel_rfl) (c_ld Try.isAgg3 (by kernel_rfl) H) (fun x78 H => ?_)
          refine lm_p (d := some 79) (by kernel_rfl) rfl (by kernel_rfl) (by kernel_rfl) (p_off Try.underlying35 rfl (fun w => ⟨_, Try.sizeOf3 w⟩) rfl (by kernel_rfl) H) (fun x79 H => ?_)
          refine lm_f (d := some 80) (by kernel_rfl) rfl (by kernel_rfl) (by kernel_rfl) (by kernel_rfl) (c_ld Try.isAgg3 (by kernel_rfl) H) (fun x80 H => ?_)
          refine lm_p (d := some 81) (by kernel_rfl) rfl (by kernel_rfl) (by kernel_rfl) (p_add (by kernel_rfl) (by kernel_rfl) H) (fun x81 H => ?_)
          refine lm_fr (b := ⟨([x0, x1, x2, x3, (.slice none 0 0), x5, (.slice none 0 0), undef, undef, x9, x10, x11, x11, (D 0), (D 1), (D 2), x16, x16, (D_1 0), (D_1 1), x20, x21, x22, x23, x24, x25, undef, undef, x28, x29, x30, x31, x32, x33, x34, x35, x36, x37, x38, x39, x40, x41, x42, x43, x44, x45, x46, x47, x48, x49] ++ [x50, x51, x52, x53, x54, x55, x56, x57, x58, x59, x60, x61, x62, x63, x64, x65, x66, x67, x68, x69, x70, x71, x72, x73, x74, x75, x76, x77, x78, x79, x80, x81, undef, undef, undef, undef, undef, undef, undef, undef, undef, undef, undef, undef, undef, undef, undef, undef, undef, undef] ++ [undef, undef, undef]).toArray, []⟩) (by kernel_rfl) ?_
          refine lm_p (d := some 82) (by kernel_rfl) rfl (by kernel_rfl) (by kernel_rfl) (p_off Try.underlying35 rfl (fun w => ⟨_, Try.sizeOf3 w⟩) rfl (by kernel_rfl) H) (fun x82 H => ?_)
          refine lm_f (d := some 83) (by kernel_rfl) rfl (by kernel_rfl) (by kernel_rfl) (by kernel_rfl) (c_ld Try.isAgg3 (by kernel_rfl) H) (fun x83 H => ?_)
          refine lm_p (d := some 84) (by kernel_rfl) rfl (by kernel_rfl) (by kernel_rfl) (p_off Try.underlying35 rfl (fun w => ⟨_, Try.sizeOf3 w⟩) rfl (by kernel_rfl) H) (fun x84 H => ?_)
          refine lm_f (d := some 85) (by kernel_rfl) rfl (by kernel_rfl) (by kernel_rfl) (by kernel_rfl) (c_ld Try.isAgg3 (by kernel_rfl) H) (fun x85 H => ?_)
          refine lm_p (d := some 86) (by kernel_rfl) rfl (by kernel_rfl) (by kernel_rfl) (p_add (by kernel_rfl) (by kernel_rfl) H) (fun x86 H => ?_)
          refine lm_d (d := some 87) (by kernel_rfl) rfl (by kernel_rfl) (by kernel_rfl) (by kernel_rfl) HA_13 (d_call (by kernel_rfl) (by kernel_rfl) H) (fun x87 h_13 w_14 H HA_14 => ?_)
          refine lm_fr (b := ⟨([x0, x1, x2, x3, (.slice none 0 0), x5, (.slice none 0 0), undef, undef, x9, x10, x11, x11, (D 0), (D 1), (D 2), x16, x16, (D_1 0), (D_1 1), x20, x21, x22, x23, x24, x25, undef, undef, x28, x29, x30, x31, x32, x33, x34, x35, x36, x37, x38, x39, x40, x41, x42, x43, x44, x45, x46, x47, x48, x49] ++ [x50, x51, x52, x53, x54, x55, x56, x57, x58, x59, x60, x61, x62, x63, x64, x65, x66, x67, x68, x69, x70, x71, x72, x73, x74, x75, x76, x77, x78, x79, x80, x81, x82, x83, x84, x85, x86, x87, undef, undef, undef, undef, undef, undef, undef, undef, undef, undef, undef, undef] ++ [undef, undef, undef]).toArray, []⟩) (by kernel_rfl) ?_
          refine lm_d (d := some 88) (by kernel_rfl) rfl (by kernel_rfl) (by kernel_rfl) (by kernel_rfl) HA_14 (d_slit (zc := #[.int .i64 0, .int .i64 0, .int .i64 0, .int .i64 0]) Try.underlying37 Try.sizeOf35 (by decide) (.inr ⟨by decide, _, Try.zeroValue35, (by kernel_rfl)⟩) (by kernel_rfl) (by kernel_rfl) H) (fun x88 h_14 w_15 H HA_15 => ?_)
          refine lm_p (d := some 89) (by kernel_rfl) rfl (by kernel_rfl) (by kernel_rfl) (p_len Try.underlying37 (by kernel_rfl) H) (fun x89 H => ?_)
          refine lm_al (x := (.int .i64 0)) (d := some 90) (by kernel_rfl) rfl (by kernel_rfl) (by kernel_rfl) (al_move (by kernel_rfl)) ?_
          refine lm_nil ?_
          refine then_normal ?_
          refine fr_eq (b := ⟨([x0, x1, x2, x3, (.slice none 0 0), x5, (.slice none 0 0), undef, undef, x9, x10, x11, x11, (D 0), (D 1), (D 2), x16, x16, (D_1 0), (D_1 1), x20, x21, x22, x23, x24, x25, undef, undef, x28, x29, x30, x31, x32, x33, x34, x35, x36, x37, x38, x39, x40, x41, x42, x43, x44, x45, x46, x47, x48, x49] ++ [x50, x51, x52, x53, x54, x55, x56, x57, x58, x59, x60, x61, x62, x63, x64, x65, x66, x67, x68, x69, x70, x71, x72, x73, x74, x75, x76, x77, x78, x79, x80, x81, x82, x83, x84, x85, x86, x87, x88, x89, (.int .i64 0), undef, undef, undef, undef, undef, undef, undef, undef, undef] ++ [undef, undef, undef]).toArray, []⟩) (by kernel_rfl) ?_
          refine wp_block ?_
          obtain ⟨I, m, H0, HB⟩ := H
          refine wp_loop (fun a w => ∃ (D_2 : Nat → Value) (x6 x90 : Value) (h_15 : Heap), a = ⟨([x0, x1, x2, x3, (.slice none 0 0), x5, x6, undef, (D_2 0), x9, x10, x11, x11, (D 0), (D 1), (D 2), x16, x16, (D_1 0), (D_1 1), x20, x21, x22, x23, x24, x25, undef, undef, x28, x29, x30, x31, x32, x33, x34, x35, x36, x37, x38, x39, x40, x41, x42, x43, x44, x45, x46, x47, x48, x49] ++ [x50, x51, x52, x53, x54, x55, x56, x57, x58, x59, x60, x61, x62, x63, x64, x65, x66, x67, x68, x69, x70, x71, x72, x73, x74, x75, x76, x77, x78, x79, x80, x81, x82, x83, x84, x85, x86, x87, x88, x89, x90, (D_2 1), (D_2 2), (D_2 3), (D_2 4), (D_2 5), (D_2 6), (D_2 7), (D_2 8), (D_2 9)] ++ [(D_2 10), (D_2 11), undef]).toArray, []⟩ ∧ At w0 w h_15 ∧ I (x6, x90) h_15) (fun a w => m ((a.tmps.getD 6 undef), (a.tmps.getD 90 undef)) w.heap) ?_ ?_
          · exact ⟨(fun i => ([undef, undef, undef, undef, undef, undef, undef, undef, undef, undef, undef, undef]).getD i undef), (.slice none 0 0), (.int .i64 0), h_14, by kernel_rfl, HA_15, H0⟩
          · rintro _ w_16 ⟨D_2, x6, x90, h_15, rfl, HA_16, HI⟩
            have H : rect_Less_l1 R x88 x89 (fun x6' x90' h' => I (x6', x90') h' ∧ m (x6', x90') h' < m (x6, x90) h_15) x6 x90 h_15 := HB (x6, x90) h_15 HI
            clear HB H0 HI
            unfold rect_Less_l1 at H
            refine wp_seq ?_
            refine lwp_list ?_
            refine ls_p (d := some 91) (by kernel_rfl) (by kernel_rfl) (p_sLt (by kernel_rfl) (by kernel_rfl) H) (fun x91 H => ?_)
            refine ls_nil ?_
            refine then_normal ?_
            refine fr_eq (b := ⟨([x0, x1, x2, x3, (.slice none 0 0), x5, x6, undef, (D_2 0), x9, x10, x11, x11, (D 0), (D 1), (D 2), x16, x16, (D_1 0), (D_1 1), x20, x21, x22, x23, x24, x25, undef, undef, x28, x29, x30, x31, x32, x33, x34, x35, x36, x37, x38, x39, x40, x41, x42, x43, x44, x45, x46, x47, x48, x49] ++ [x50, x51, x52, x53, x54, x55, x56, x57, x58, x59, x60, x61, x62, x63, x64, x65, x66, x67, x68, x69, x70, x71, x72, x73, x74, x75, x76, x77, x78, x79, x80, x81, x82, x83, x84, x85, x86, x87, x88, x89, x90, x91, (D_2 2), (D_2 3), (D_2 4), (D_2 5), (D_2 6), (D_2 7), (D_2 8), (D_2 9)] ++ [(D_2 10), (D_2 11), undef]).toArray, []⟩) (by kernel_rfl) ?_
            refine wp_seq ?_
            refine wp_if rfl H (fun H => ?_) (fun H => ?_)
            · refine wp_skip ?_
              refine then_normal ?_
              refine fr_eq (b := ⟨([x0, x1, x2, x3, (.slice none 0 0), x5, x6, undef, (D_2 0), x9, x10, x11, x11, (D 0), (D 1), (D 2), x16, x16, (D_1 0), (D_1 1), x20, x21, x22, x23, x24, x25, undef, undef, x28, x29, x30, x31, x32, x33, x34, x35, x36, x37, x38, x39, x40, x41, x42, x43, x44, x45, x46, x47, x48, x49] ++ [x50, x51, x52, x53, x54, x55, x56, x57, x58, x59, x60, x61, x62, x63, x64, x65, x66, x67, x68, x69, x70, x71, x72, x73, x74, x75, x76, x77, x78, x79, x80, x81, x82, x83, x84, x85, x86, x87, x88, x89, x90, x91, (D_2 2), (D_2 3), (D_2 4), (D_2 5), (D_2 6), (D_2 7), (D_2 8), (D_2 9)] ++ [(D_2 10), (D_2 11), undef]).toArray, []⟩) (by kernel_rfl) ?_
              refine wp_seq ?_
              refine wp_join (fun a w => ∃ (D_3 : Nat → Value) (x6_1 : Value) (h_16 : Heap), a = ⟨([x0, x1, x2, x3, (.slice none 0 0), x5, x6_1, undef, (D_3 0), x9, x10, x11, x11, (D 0), (D 1), (D 2), x16, x16, (D_1 0), (D_1 1), x20, x21, x22, x23, x24, x25, undef, undef, x28, x29, x30, x31, x32, x33, x34, x35, x36, x37, x38, x39, x40, x41, x42, x43, x44, x45, x46, x47, x48, x49] ++ [x50, x51, x52, x53, x54, x55, x56, x57, x58, x59, x60, x61, x62, x63, x64, x65, x66, x67, x68, x69, x70, x71, x72, x73, x74, x75, x76, x77, x78, x79, x80, x81, x82, x83, x84, x85, x86, x87, x88, x89, x90, x91, (D_3 1), (D_3 2), (D_3 3), (D_3 4), (D_3 5), (D_3 6), (D_3 7), (D_3 8)] ++ [(D_3 9), (D_2 11), undef]).toArray, []⟩ ∧ At w0 w h_16 ∧ rect_Less_j2 (fun x6' x90' h' => I (x6', x90') h' ∧ m (x6', x90') h' < m (x6, x90) h_15) x90 x6_1 h_16) ?_ ?_
              · refine wp_block ?_
                refine wp_seq ?_
                refine lwp_list ?_
                refine ls_p (d := some 92) (by kernel_rfl) (by kernel_rfl) (p_ixs Try.underlying37 Try.sizeOf35 (by kernel_rfl) (by kernel_rfl) H) (fun x92 H => ?_)
                refine ls_y (d := some 93) (by kernel_rfl) (by kernel_rfl) HA_16 (y_ldn Try.isAgg35 Try.sizeOf35 (by kernel_rfl) H) (fun x93 H => ?_)
                refine ls_d (d := some 8) (by kernel_rfl) (by kernel_rfl) HA_16 (d_alloc Try.zeroValue35 H) (fun x8 h_17 w_18 H HA_18 => ?_)
                refine ls_d (d := none) (by kernel_rfl) (by kernel_rfl) HA_18 (d_stn Try.sizeOf35 (by kernel_rfl) (by kernel_rfl) H) (fun _ h_18 w_19 H HA_19 => ?_)
                refine ls_nil ?_
                refine then_normal ?_
                refine fr_eq (b := ⟨([x0, x1, x2, x3, (.slice none 0 0), x5, x6, undef, x8, x9, x10, x11, x11, (D 0), (D 1), (D 2), x16, x16, (D_1 0), (D_1 1), x20, x21, x22, x23, x24, x25, undef, undef, x28, x29, x30, x31, x32, x33, x34, x35, x36, x37, x38, x39, x40, x41, x42, x43, x44, x45, x46, x47, x48, x49] ++ [x50, x51, x52, x53, x54, x55, x56, x57, x58, x59, x60, x61, x62, x63, x64, x65, x66, x67, x68, x69, x70, x71, x72, x73, x74, x75, x76, x77, x78, x79, x80, x81, x82, x83, x84, x85, x86, x87, x88, x89, x90, x91, x92, x93, (D_2 4), (D_2 5), (D_2 6), (D_2 7), (D_2 8), (D_2 9)] ++ [(D_2 10), (D_2 11), undef]).toArray, []⟩) (by kernel_rfl) ?_
                refine wp_seq ?_
                refine lwp_list ?_
                refine ls_y (d := some 94) (by kernel_rfl) (by kernel_rfl) HA_19 (y_ldn Try.isAgg35 Try.sizeOf35 (by kernel_rfl) H) (fun x94 H => ?_)
                refine ls_d (d := some 95) (by kernel_rfl) (by kernel_rfl) HA_19 (d_call (by kernel_rfl) (by kernel_rfl) H) (fun x95 h_19 w_20 H HA_20 => ?_)
                refine ls_p (d := some 96) (by kernel_rfl) (by kernel_rfl) (p_not (by kernel_rfl) H) (fun x96 H => ?_)
                refine ls_nil ?_
                refine then_normal ?_
                refine fr_eq (b := ⟨([x0, x1, x2, x3, (.slice none 0 0), x5, x6, undef, x8, x9, x10, x11, x11, (D 0), (D 1), (D 2), x16, x16, (D_1 0), (D_1 1), x20, x21, x22, x23, x24, x25, undef, undef, x28, x29, x30, x31, x32, x33, x34, x35, x36, x37, x38, x39, x40, x41, x42, x43, x44, x45, x46, x47, x48, x49] ++ [x50, x51, x52, x53, x54, x55, x56, x57, x58, x59, x60, x61, x62, x63, x64, x65, x66, x67, x68, x69, x70, x71, x72, x73, x74, x75, x76, x77, x78, x79, x80, x81, x82, x83, x84, x85, x86, x87, x88, x89, x90, x91, x92, x93, x94, x95, x96, (D_2 7), (D_2 8), (D_2 9)] ++ [(D_2 10), (D_2 11), undef]).toArray, []⟩) (by kernel_rfl) ?_
                refine wp_if rfl H (fun H => ?_) (fun H => ?_)
                · refine lwp_list ?_
                  refine ls_move (x := x6) (by kernel_rfl) (by kernel_rfl) ?_
                  refine ls_y (d := some 98) (by kernel_rfl) (by kernel_rfl) HA_20 (y_ldn Try.isAgg35 Try.sizeOf35 (by kernel_rfl) H) (fun x98 H => ?_)
                  refine ls_d (d := some 99) (by kernel_rfl) (by kernel_rfl) HA_20 (d_slit (zc := #[.int .i64 0, .int .i64 0, .int .i64 0, .int .i64 0]) Try.underlying37 Try.sizeOf35 (by decide) (.inr ⟨by decide, _, Try.zeroValue35, (by kernel_rfl)⟩) (by kernel_rfl) (by kernel_rfl) H) (fun x99 h_20 w_21 H HA_21 => ?_)
                  refine ls_d (d := some 100) (by kernel_rfl) (by kernel_rfl) HA_21 (d_app (z := #[.int .i64 0, .int .i64 0, .int .i64 0, .int .i64 0]) Try.underlying37 Try.underlying37 (.inl ⟨_, rfl⟩) Try.typeInfo35 (by kernel_rfl) Try.sizeOf35 Try.zeroValue35 (by kernel_rfl) (by kernel_rfl) (by kernel_rfl) H) (fun x100 h_21 w_22 H HA_22 => ?_)
                  refine ls_assign (x := x100) (by kernel_rfl) (by kernel_rfl) ?_
                  refine ls_nil ?_
                  refine block_normal ?_
                  exact ⟨(fun i => ([x8, x92, x93, x94, x95, x96, x6, x98, x99, x100]).getD i undef), x100, h_21, by kernel_rfl, HA_22, H⟩
                · refine wp_skip ?_
                  refine block_normal ?_
                  exact ⟨(fun i => ([x8, x92, x93, x94, x95, x96, (D_2 7), (D_2 8), (D_2 9), (D_2 10)]).getD i undef), x6, h_19, by kernel_rfl, HA_20, H⟩
              · rintro _ w_17 ⟨D_3, x6_1, h_16, rfl, HA_17, H⟩
                unfold rect_Less_j2 at H
                refine then_normal ?_
                refine fr_eq (b := ⟨([x0, x1, x2, x3, (.slice none 0 0), x5, x6_1, undef, (D_3 0), x9, x10, x11, x11, (D 0), (D 1), (D 2), x16, x16, (D_1 0), (D_1 1), x20, x21, x22, x23, x24, x25, undef, undef, x28, x29, x30, x31, x32, x33, x34, x35, x36, x37, x38, x39, x40, x41, x42, x43, x44, x45, x46, x47, x48, x49] ++ [x50, x51, x52, x53, x54, x55, x56, x57, x58, x59, x60, x61, x62, x63, x64, x65, x66, x67, x68, x69, x70, x71, x72, x73, x74, x75, x76, x77, x78, x79, x80, x81, x82, x83, x84, x85, x86, x87, x88, x89, x90, x91, (D_3 1), (D_3 2), (D_3 3), (D_3 4), (D_3 5), (D_3 6), (D_3 7), (D_3 8)] ++ [(D_3 9), (D_2 11), undef]).toArray, []⟩) (by kernel_rfl) ?_
                refine lwp_list ?_
                refine ls_p (d := some 101) (by kernel_rfl) (by kernel_rfl) (p_add (by kernel_rfl) (by kernel_rfl) H) (fun x101 H => ?_)
                refine ls_move (x := x101) (by kernel_rfl) (by kernel_rfl) ?_
                refine ls_nil ?_
                exact ⟨⟨(fun i => ([(D_3 0), x91, (D_3 1), (D_3 2), (D_3 3), (D_3 4), (D_3 5), (D_3 6), (D_3 7), (D_3 8), (D_3 9), x101]).getD i undef), x6_1, x101, h_16, by kernel_rfl, HA_17, H.1⟩, loop_lt HA_17.heap HA_16.heap (by kernel_rfl) (by kernel_rfl) H.2⟩
            · refine wp_exit ?_
              refine then_exit ?_
              refine then_exit ?_
              refine block_exit ?_
              refine then_normal ?_
              refine fr_eq (b := ⟨([x0, x1, x2, x3, (.slice none 0 0), x5, x6, undef, (D_2 0), x9, x10, x11, x11, (D 0), (D 1), (D 2), x16, x16, (D_1 0), (D_1 1), x20, x21, x22, x23, x24, x25, undef, undef, x28, x29, x30, x31, x32, x33, x34, x35, x36, x37, x38, x39, x40, x41, x42, x43, x44, x45, x46, x47, x48, x49] ++ [x50, x51, x52, x53, x54, x55, x56, x57, x58, x59, x60, x61, x62, x63, x64, x65, x66, x67, x68, x69, x70, x71, x72, x73, x74, x75, x76, x77, x78, x79, x80, x81, x82, x83, x84, x85, x86, x87, x88, x89, x90, x91, (D_2 2), (D_2 3), (D_2 4), (D_2 5), (D_2 6), (D_2 7), (D_2 8), (D_2 9)] ++ [(D_2 10), (D_2 11), undef]).toArray, []⟩) (by kernel_rfl) ?_
              refine wp_seq ?_
              refine lwp_list ?_
              refine ls_move (x := x6) (by kernel_rfl) (by kernel_rfl) ?_
              refine ls_assign (x := x6) (by kernel_rfl) (by kernel_rfl) ?_
              refine ls_nil ?_
              refine then_normal ?_
              refine fr_eq (b := ⟨([x0, x1, x2, x3, x6, x5, x6, undef, (D_2 0), x9, x10, x11, x11, (D 0), (D 1), (D 2), x16, x16, (D_1 0), (D_1 1), x20, x21, x22, x23, x24, x25, undef, undef, x28, x29, x30, x31, x32, x33, x34, x35, x36, x37, x38, x39, x40, x41, x42, x43, x44, x45, x46, x47, x48, x49] ++ [x50, x51, x52, x53, x54, x55, x56, x57, x58, x59, x60, x61, x62, x63, x64, x65, x66, x67, x68, x69, x70, x71, x72, x73, x74, x75, x76, x77, x78, x79, x80, x81, x82, x83, x84, x85, x86, x87, x88, x89, x90, x91, (D_2 2), (D_2 3), (D_2 4), (D_2 5), (D_2 6), (D_2 7), (D_2 8), (D_2 9)] ++ [(D_2 10), (D_2 11), x6]).toArray, []⟩) (by kernel_rfl) ?_
              refine wp_ret ?_
              exact end1 (Try.results24) (by kernel_rfl) (by kernel_rfl) HA_16 H _ (.inr rfl)

end Go.Proofs.Ytecoejjpdogklaa
