/- The shallow reading of one function, and that the function does it. Written by a program. -/
import Derived.Test.YtjlpgakoedigoaaDoorFnC
set_option linter.unusedVariables false
namespace Go.Proofs.YtjlpgakoedigoaaDoor
open Go Go.HW

def back_Back_Push_j2 (R : Value → Heap → Prop) (x0 x35 : Value) (h_7 : Heap) : Prop :=
  sNil x0 fun x87 =>
  sOff x87 0 fun x88 =>
  sLd h_7 x88 fun x89 =>
  sNil x0 fun x91 =>
  sOff x91 2 fun x92 =>
  sLd h_7 x92 fun x93 =>
  sIxS x89 x93 1 fun x95 =>
  sSt h_7 x95 x35 fun h_8 => 
  sNil x0 fun x98 =>
  sOff x98 2 fun x99 =>
  sLd h_8 x99 fun x100 =>
  sAdd .i64 x100 (.int .i64 1) fun x101 =>
  sNil x0 fun x103 =>
  sOff x103 1 fun x104 =>
  sLd h_8 x104 fun x105 =>
  sRem .i64 x101 x105 fun x106 =>
  sNil x0 fun x107 =>
  sOff x107 2 fun x108 =>
  sSt h_8 x108 x106 fun h_9 => 
  R unit h_9
def back_Back_Push_l1 (R : Value → Heap → Prop) (x0 x1 : Value) (next : Value → Heap → Prop) (x4 : Value) (h_1 : Heap) : Prop :=
  sGt x4 (.int .i64 0) fun x20 =>
  sAnd x20 (fun k =>
  sSub .i64 x4 (.int .i64 1) fun x24 =>
  sIxS x1 x24 4 fun x25 =>
  sLdN h_1 x25 4 fun x26 =>
  sBuild #[.int .i32 0, .int .i64 0, .int .i64 0, .int .i64 0] [] fun x27 =>
  sEqlAgg x26 x27 [some .i32, some .i64, some .i64, some .i64] fun x28 =>
  k x28) fun x29 =>
  sIf x29 (sSub .i64 x4 (.int .i64 1) fun x31 =>
  next x31 h_1) (sSl x1 none (some x4) 4 fun x34 =>
  slices_Clone_api_Cell_api_Cell_c x34 h_1 fun x35 h_2 => 
  sNil x0 fun x37 =>
  sOff x37 0 fun x38 =>
  sLd h_2 x38 fun x39 =>
  sLen x39 fun x40 =>
  sNil x0 fun x42 =>
  sOff x42 1 fun x43 =>
  sLd h_2 x43 fun x44 =>
  sLt x40 x44 fun x45 =>
  sIf x45 (sNil x0 fun x48 =>
  sOff x48 0 fun x49 =>
  sLd h_2 x49 fun x50 =>
  sSlit h_2 #[.slice none 0 0] [(0, 1, x35)] 22 1 fun x52 h_3 => 
  sApp h_3 x50 x52 #[.slice none 0 0] 22 24 fun x53 h_4 => 
  sNil x0 fun x54 =>
  sOff x54 0 fun x55 =>
  sSt h_4 x55 x53 fun h_5 => 
  sNil x0 fun x57 =>
  sOff x57 3 fun x58 =>
  sLd h_5 x58 fun x59 =>
  sAdd .i64 x59 (.int .i64 1) fun x60 =>
  sNil x0 fun x61 =>
  sOff x61 3 fun x62 =>
  sSt h_5 x62 x60 fun h_6 => 
  R unit h_6) (sNil x0 fun x64 =>
  sOff x64 3 fun x65 =>
  sLd h_2 x65 fun x66 =>
  sNil x0 fun x68 =>
  sOff x68 1 fun x69 =>
  sLd h_2 x69 fun x70 =>
  sEq x66 x70 fun x71 =>
  sIf x71 (sNil x0 fun x73 =>
  sOff x73 4 fun x74 =>
  sLd h_2 x74 fun x75 =>
  sAdd .i64 x75 (.int .i64 1) fun x76 =>
  sNil x0 fun x77 =>
  sOff x77 4 fun x78 =>
  sSt h_2 x78 x76 fun h_10 => 
  back_Back_Push_j2 R x0 x35 h_10) (sNil x0 fun x80 =>
  sOff x80 3 fun x81 =>
  sLd h_2 x81 fun x82 =>
  sAdd .i64 x82 (.int .i64 1) fun x83 =>
  sNil x0 fun x84 =>
  sOff x84 3 fun x85 =>
  sSt h_2 x85 x83 fun h_11 => 
  back_Back_Push_j2 R x0 x35 h_11)))
def back_Back_Push_S (x0 x1 : Value) (h : Heap) (R : Value → Heap → Prop) : Prop :=
  sNil x0 fun x6 =>
  sOff x6 1 fun x7 =>
  sLd h x7 fun x8 =>
  sEq x8 (.int .i64 0) fun x9 =>
  sIf x9 (sNil x0 fun x11 =>
  sOff x11 4 fun x12 =>
  sLd h x12 fun x13 =>
  sAdd .i64 x13 (.int .i64 1) fun x14 =>
  sNil x0 fun x15 =>
  sOff x15 4 fun x16 =>
  sSt h x16 x14 fun h => 
  R unit h) (sLen x1 fun x18 =>
  sLoop (S := Value) (fun nxt s h => back_Back_Push_l1 R x0 x1 (fun x4' h => nxt x4' h) s h) x18 h)
set_option maxRecDepth 100000 in
theorem back_Back_Push_runs {x0 x1 : Value} {h : Heap} {R : Value → Heap → Prop} (H : back_Back_Push_S x0 x1 h R) : back_Back_Push_c x0 x1 h R := by
  unfold back_Back_Push_S at H
  refine runs_of (b := ⟨([x0, x1, undef, undef, undef, undef, undef, undef, undef, undef, undef, undef, undef, undef, undef, undef, undef, undef, undef, undef, undef, undef, undef, undef, undef, undef, undef, undef, undef, undef, undef, undef, undef, undef, undef, undef, undef, undef, undef, undef, undef, undef, undef, undef, undef, undef, undef, undef, undef, undef] ++ [undef, undef, undef, undef, undef, undef, undef, undef, undef, undef, undef, undef, undef, undef, undef, undef, undef, undef, undef, undef, undef, undef, undef, undef, undef, undef, undef, undef, undef, undef, undef, undef, undef, undef, undef, undef, undef, undef, undef, undef, undef, undef, undef, undef, undef, undef, undef, undef, undef, undef] ++ [undef, undef, undef, undef, undef, undef, undef, undef, undef]).toArray, []⟩) Tryd.call11 Tryd.func11 rfl (by kernel_rfl) (fun w0 HA => ?_)
  refine wp_seq ?_
  refine wp_seq ?_
  refine lwp_list ?_
  refine ls_move (x := x0) (by kernel_rfl) (by kernel_rfl) ?_
  refine ls_p (d := some 6) (by kernel_rfl) (by kernel_rfl) (p_nil (by kernel_rfl) H) (fun x6 H => ?_)
  refine ls_p (d := some 7) (by kernel_rfl) (by kernel_rfl) (p_off Tryd.underlying56 rfl (fun w => ⟨_, Tryd.sizeOf3 w⟩) rfl (by kernel_rfl) H) (fun x7 H => ?_)
  refine ls_y (d := some 8) (by kernel_rfl) (by kernel_rfl) HA (y_ld Tryd.isAgg3 (by kernel_rfl) H) (fun x8 H => ?_)
  refine ls_p (d := some 9) (by kernel_rfl) (by kernel_rfl) (p_sEq (by kernel_rfl) (by kernel_rfl) H) (fun x9 H => ?_)
  refine ls_nil ?_
  refine then_normal ?_
  refine fr_eq (b := ⟨([x0, x1, undef, undef, undef, x0, x6, x7, x8, x9, undef, undef, undef, undef, undef, undef, undef, undef, undef, undef, undef, undef, undef, undef, undef, undef, undef, undef, undef, undef, undef, undef, undef, undef, undef, undef, undef, undef, undef, undef, undef, undef, undef, undef, undef, undef, undef, undef, undef, undef] ++ [undef, undef, undef, undef, undef, undef, undef, undef, undef, undef, undef, undef, undef, undef, undef, undef, undef, undef, undef, undef, undef, undef, undef, undef, undef, undef, undef, undef, undef, undef, undef, undef, undef, undef, undef, undef, undef, undef, undef, undef, undef, undef, undef, undef, undef, undef, undef, undef, undef, undef] ++ [undef, undef, undef, undef, undef, undef, undef, undef, undef]).toArray, []⟩) (by kernel_rfl) ?_
  refine wp_if rfl H (fun H => ?_) (fun H => ?_)
  · refine wp_seq ?_
    refine lwp_list ?_
    refine ls_move (x := x0) (by kernel_rfl) (by kernel_rfl) ?_
    refine ls_p (d := some 11) (by kernel_rfl) (by kernel_rfl) (p_nil (by kernel_rfl) H) (fun x11 H => ?_)
    refine ls_p (d := some 12) (by kernel_rfl) (by kernel_rfl) (p_off Tryd.underlying56 rfl (fun w => ⟨_, Tryd.sizeOf3 w⟩) rfl (by kernel_rfl) H) (fun x12 H => ?_)
    refine ls_y (d := some 13) (by kernel_rfl) (by kernel_rfl) HA (y_ld Tryd.isAgg3 (by kernel_rfl) H) (fun x13 H => ?_)
    refine ls_p (d := some 14) (by kernel_rfl) (by kernel_rfl) (p_add (by kernel_rfl) (by kernel_rfl) H) (fun x14 H => ?_)
    refine ls_p (d := some 15) (by kernel_rfl) (by kernel_rfl) (p_nil (by kernel_rfl) H) (fun x15 H => ?_)
    refine ls_fr (b := ⟨([x0, x1, undef, undef, undef, x0, x6, x7, x8, x9, x0, x11, x12, x13, x14, x15, undef, undef, undef, undef, undef, undef, undef, undef, undef, undef, undef, undef, undef, undef, undef, undef, undef, undef, undef, undef, undef, undef, undef, undef, undef, undef, undef, undef, undef, undef, undef, undef, undef, undef] ++ [undef, undef, undef, undef, undef, undef, undef, undef, undef, undef, undef, undef, undef, undef, undef, undef, undef, undef, undef, undef, undef, undef, undef, undef, undef, undef, undef, undef, undef, undef, undef, undef, undef, undef, undef, undef, undef, undef, undef, undef, undef, undef, undef, undef, undef, undef, undef, undef, undef, undef] ++ [undef, undef, undef, undef, undef, undef, undef, undef, undef]).toArray, []⟩) (by kernel_rfl) ?_
    refine ls_p (d := some 16) (by kernel_rfl) (by kernel_rfl) (p_off Tryd.underlying56 rfl (fun w => ⟨_, Tryd.sizeOf3 w⟩) rfl (by kernel_rfl) H) (fun x16 H => ?_)
    refine ls_d (d := none) (by kernel_rfl) (by kernel_rfl) HA (d_st Tryd.sizeOf3 (by kernel_rfl) (by kernel_rfl) H) (fun _ h w H HA => ?_)
    refine ls_nil ?_
    refine then_normal ?_
    refine fr_eq (b := ⟨([x0, x1, undef, undef, undef, x0, x6, x7, x8, x9, x0, x11, x12, x13, x14, x15, x16, undef, undef, undef, undef, undef, undef, undef, undef, undef, undef, undef, undef, undef, undef, undef, undef, undef, undef, undef, undef, undef, undef, undef, undef, undef, undef, undef, undef, undef, undef, undef, undef, undef] ++ [undef, undef, undef, undef, undef, undef, undef, undef, undef, undef, undef, undef, undef, undef, undef, undef, undef, undef, undef, undef, undef, undef, undef, undef, undef, undef, undef, undef, undef, undef, undef, undef, undef, undef, undef, undef, undef, undef, undef, undef, undef, undef, undef, undef, undef, undef, undef, undef, undef, undef] ++ [undef, undef, undef, undef, undef, undef, undef, undef, undef]).toArray, []⟩) (by kernel_rfl) ?_
    refine wp_ret ?_
    refine then_ret ?_
    exact end0 (Tryd.results11) (by kernel_rfl) HA H _ (.inr rfl)
  · refine wp_skip ?_
    refine then_normal ?_
    refine fr_eq (b := ⟨([x0, x1, undef, undef, undef, x0, x6, x7, x8, x9, undef, undef, undef, undef, undef, undef, undef, undef, undef, undef, undef, undef, undef, undef, undef, undef, undef, undef, undef, undef, undef, undef, undef, undef, undef, undef, undef, undef, undef, undef, undef, undef, undef, undef, undef, undef, undef, undef, undef, undef] ++ [undef, undef, undef, undef, undef, undef, undef, undef, undef, undef, undef, undef, undef, undef, undef, undef, undef, undef, undef, undef, undef, undef, undef, undef, undef, undef, undef, undef, undef, undef, undef, undef, undef, undef, undef, undef, undef, undef, undef, undef, undef, undef, undef, undef, undef, undef, undef, undef, undef, undef] ++ [undef, undef, undef, undef, undef, undef, undef, undef, undef]).toArray, []⟩) (by kernel_rfl) ?_
    refine wp_seq ?_
    refine lwp_list ?_
    refine ls_move (x := x1) (by kernel_rfl) (by kernel_rfl) ?_
    refine ls_p (d := some 18) (by kernel_rfl) (by kernel_rfl) (p_len Tryd.underlying22 (by kernel_rfl) H) (fun x18 H => ?_)
    refine ls_assign (x := x18) (by kernel_rfl) (by kernel_rfl) ?_
    refine ls_nil ?_
    refine then_normal ?_
    refine fr_eq (b := ⟨([x0, x1, undef, undef, x18, x0, x6, x7, x8, x9, undef, undef, undef, undef, undef, undef, undef, x1, x18, undef, undef, undef, undef, undef, undef, undef, undef, undef, undef, undef, undef, undef, undef, undef, undef, undef, undef, undef, undef, undef, undef, undef, undef, undef, undef, undef, undef, undef, undef, undef] ++ [undef, undef, undef, undef, undef, undef, undef, undef, undef, undef, undef, undef, undef, undef, undef, undef, undef, undef, undef, undef, undef, undef, undef, undef, undef, undef, undef, undef, undef, undef, undef, undef, undef, undef, undef, undef, undef, undef, undef, undef, undef, undef, undef, undef, undef, undef, undef, undef, undef, undef] ++ [undef, undef, undef, undef, undef, undef, undef, undef, undef]).toArray, []⟩) (by kernel_rfl) ?_
    refine wp_seq ?_
    refine wp_block ?_
    obtain ⟨I, m, H0, HB⟩ := H
    refine wp_loop (fun a w => ∃ (D : Nat → Value) (x4 : Value) (h_1 : Heap), a = ⟨([x0, x1, undef, undef, x4, x0, x6, x7, x8, x9, undef, undef, undef, undef, undef, undef, undef, x1, x18, (D 0), (D 1), (D 2), (D 3), (D 4), (D 5), (D 6), (D 7), (D 8), (D 9), (D 10), (D 11), (D 12), undef, undef, undef, undef, undef, undef, undef, undef, undef, undef, undef, undef, undef, undef, undef, undef, undef, undef] ++ [undef, undef, undef, undef, undef, undef, undef, undef, undef, undef, undef, undef, undef, undef, undef, undef, undef, undef, undef, undef, undef, undef, undef, undef, undef, undef, undef, undef, undef, undef, undef, undef, undef, undef, undef, undef, undef, undef, undef, undef, undef, undef, undef, undef, undef, undef, undef, undef, undef, undef] ++ [undef, undef, undef, undef, undef, undef, undef, undef, undef]).toArray, []⟩ ∧ At w0 w h_1 ∧ I x4 h_1) (fun a w => m (a.tmps.getD 4 undef) w.heap) ?_ ?_
    · exact ⟨(fun i => ([undef, undef, undef, undef, undef, undef, undef, undef, undef, undef, undef, undef, undef]).getD i undef), x18, h, by kernel_rfl, HA, H0⟩
    · rintro _ w_1 ⟨D, x4, h_1, rfl, HA_1, HI⟩
      have H : back_Back_Push_l1 R x0 x1 (fun x4' h' => I x4' h' ∧ m x4' h' < m x4 h_1) x4 h_1 := HB x4 h_1 HI
      clear HB H0 HI
      unfold back_Back_Push_l1 at H
      refine wp_seq ?_
      refine wp_seq ?_
      refine lwp_list ?_
      refine ls_move (x := x4) (by kernel_rfl) (by kernel_rfl) ?_
      refine ls_p (d := some 20) (by kernel_rfl) (by kernel_rfl) (p_sGt (by kernel_rfl) (by kernel_rfl) H) (fun x20 H => ?_)
      refine ls_move (x := x20) (by kernel_rfl) (by kernel_rfl) ?_
      refine ls_and [(), (), (), (), (), (), (), ()] (fun K a w => ∃ (D_1 : Nat → Value) (x29 : Value), a = ⟨([x0, x1, undef, undef, x4, x0, x6, x7, x8, x9, undef, undef, undef, undef, undef, undef, undef, x1, x18, x4, x20, x20, (D_1 0), (D_1 1), (D_1 2), (D_1 3), (D_1 4), (D_1 5), (D_1 6), x29, (D 11), (D 12), undef, undef, undef, undef, undef, undef, undef, undef, undef, undef, undef, undef, undef, undef, undef, undef, undef, undef] ++ [undef, undef, undef, undef, undef, undef, undef, undef, undef, undef, undef, undef, undef, undef, undef, undef, undef, undef, undef, undef, undef, undef, undef, undef, undef, undef, undef, undef, undef, undef, undef, undef, undef, undef, undef, undef, undef, undef, undef, undef, undef, undef, undef, undef, undef, undef, undef, undef, undef, undef] ++ [undef, undef, undef, undef, undef, undef, undef, undef, undef]).toArray, []⟩ ∧ At w0 w h_1 ∧ K x29) H (fun hb H => ?_) (fun hb H => ?_) ?_
      · refine ls_move (x := x1) (by rw [hb]; kernel_rfl) (by kernel_rfl) ?_
        refine ls_move (x := x4) (by rw [hb]; kernel_rfl) (by kernel_rfl) ?_
        refine ls_p (d := some 24) (by kernel_rfl) (by rw [hb]; kernel_rfl) (p_sub (by kernel_rfl) (by kernel_rfl) H) (fun x24 H => ?_)
        refine ls_fr (b := ⟨([x0, x1, undef, undef, x4, x0, x6, x7, x8, x9, undef, undef, undef, undef, undef, undef, undef, x1, x18, x4, x20, x20, x1, x4, x24, (D 6), (D 7), (D 8), (D 9), (D 10), (D 11), (D 12), undef, undef, undef, undef, undef, undef, undef, undef, undef, undef, undef, undef, undef, undef, undef, undef, undef, undef] ++ [undef, undef, undef, undef, undef, undef, undef, undef, undef, undef, undef, undef, undef, undef, undef, undef, undef, undef, undef, undef, undef, undef, undef, undef, undef, undef, undef, undef, undef, undef, undef, undef, undef, undef, undef, undef, undef, undef, undef, undef, undef, undef, undef, undef, undef, undef, undef, undef, undef, undef] ++ [undef, undef, undef, undef, undef, undef, undef, undef, undef]).toArray, []⟩) (by kernel_rfl) ?_
        refine ls_p (d := some 25) (by kernel_rfl) (by rw [hb]; kernel_rfl) (p_ixs Tryd.underlying22 Tryd.sizeOf32 (by kernel_rfl) (by kernel_rfl) H) (fun x25 H => ?_)
        refine ls_y (d := some 26) (by kernel_rfl) (by rw [hb]; kernel_rfl) HA_1 (y_ldn Tryd.isAgg32 Tryd.sizeOf32 (by kernel_rfl) H) (fun x26 H => ?_)
        refine ls_p (d := some 27) (by kernel_rfl) (by rw [hb]; kernel_rfl) (p_lit (pl := [(0, 1), (1, 3)]) Tryd.zeroValue32 Tryd.underlying32 ⟨(by kernel_rfl), Tryd.sizeOf21, (by kernel_rfl), Tryd.sizeOf30, trivial⟩ (by kernel_rfl) (by kernel_rfl) H) (fun x27 H => ?_)
        refine ls_p (d := some 28) (by kernel_rfl) (by rw [hb]; kernel_rfl) (p_eqlAgg (eqT_32) (by kernel_rfl) (by kernel_rfl) H) (fun x28 H => ?_)
        refine ls_pick_t (x := x28) (by kernel_rfl) (by rw [hb]; kernel_rfl) (by kernel_rfl) ?_
        refine ls_nil ?_
        refine then_normal ?_
        exact ⟨(fun i => ([x1, x4, x24, x25, x26, x27, x28]).getD i undef), x28, by kernel_rfl, HA_1, H⟩
      · refine ls_skip (d := some 22) (by kernel_rfl) (by rw [hb]; kernel_rfl) ?_
        refine ls_skip (d := some 23) (by kernel_rfl) (by rw [hb]; kernel_rfl) ?_
        refine ls_skip (d := some 24) (by kernel_rfl) (by rw [hb]; kernel_rfl) ?_
        refine ls_fr (b := ⟨([x0, x1, undef, undef, x4, x0, x6, x7, x8, x9, undef, undef, undef, undef, undef, undef, undef, x1, x18, x4, x20, x20, undef, undef, undef, (D 6), (D 7), (D 8), (D 9), (D 10), (D 11), (D 12), undef, undef, undef, undef, undef, undef, undef, undef, undef, undef, undef, undef, undef, undef, undef, undef, undef, undef] ++ [undef, undef, undef, undef, undef, undef, undef, undef, undef, undef, undef, undef, undef, undef, undef, undef, undef, undef, undef, undef, undef, undef, undef, undef, undef, undef, undef, undef, undef, undef, undef, undef, undef, undef, undef, undef, undef, undef, undef, undef, undef, undef, undef, undef, undef, undef, undef, undef, undef, undef] ++ [undef, undef, undef, undef, undef, undef, undef, undef, undef]).toArray, []⟩) (by kernel_rfl) ?_
        refine ls_skip (d := some 25) (by kernel_rfl) (by rw [hb]; kernel_rfl) ?_
        refine ls_skip (d := some 26) (by kernel_rfl) (by rw [hb]; kernel_rfl) ?_
        refine ls_skip (d := some 27) (by kernel_rfl) (by rw [hb]; kernel_rfl) ?_
        refine ls_skip (d := some 28) (by kernel_rfl) (by rw [hb]; kernel_rfl) ?_
        refine ls_pick_f (y := (.bool false)) (by kernel_rfl) (by rw [hb]; kernel_rfl) (by kernel_rfl) ?_
        refine ls_nil ?_
        refine then_normal ?_
        exact ⟨(fun i => ([undef, undef, undef, undef, undef, undef, undef]).getD i undef), (.bool false), by kernel_rfl, HA_1, H⟩
      · rintro _ w_2 ⟨D_1, x29, rfl, HA_2, H⟩
        refine ls_nil ?_
        refine then_normal ?_
        refine fr_eq (b := ⟨([x0, x1, undef, undef, x4, x0, x6, x7, x8, x9, undef, undef, undef, undef, undef, undef, undef, x1, x18, x4, x20, x20, (D_1 0), (D_1 1), (D_1 2), (D_1 3), (D_1 4), (D_1 5), (D_1 6), x29, (D 11), (D 12), undef, undef, undef, undef, undef, undef, undef, undef, undef, undef, undef, undef, undef, undef, undef, undef, undef, undef] ++ [undef, undef, undef, undef, undef, undef, undef, undef, undef, undef, undef, undef, undef, undef, undef, undef, undef, undef, undef, undef, undef, undef, undef, undef, undef, undef, undef, undef, undef, undef, undef, undef, undef, undef, undef, undef, undef, undef, undef, undef, undef, undef, undef, undef, undef, undef, undef, undef, undef, undef] ++ [undef, undef, undef, undef, undef, undef, undef, undef, undef]).toArray, []⟩) (by kernel_rfl) ?_
        refine wp_if rfl H (fun H => ?_) (fun H => ?_)
        · refine wp_skip ?_
          refine then_normal ?_
          refine fr_eq (b := ⟨([x0, x1, undef, undef, x4, x0, x6, x7, x8, x9, undef, undef, undef, undef, undef, undef, undef, x1, x18, x4, x20, x20, (D_1 0), (D_1 1), (D_1 2), (D_1 3), (D_1 4), (D_1 5), (D_1 6), x29, (D 11), (D 12), undef, undef, undef, undef, undef, undef, undef, undef, undef, undef, undef, undef, undef, undef, undef, undef, undef, undef] ++ [undef, undef, undef, undef, undef, undef, undef, undef, undef, undef, undef, undef, undef, undef, undef, undef, undef, undef, undef, undef, undef, undef, undef, undef, undef, undef, undef, undef, undef, undef, undef, undef, undef, undef, undef, undef, undef, undef, undef, undef, undef, undef, undef, undef, undef, undef, undef, undef, undef, undef] ++ [undef, undef, undef, undef, undef, undef, undef, undef, undef]).toArray, []⟩) (by kernel_rfl) ?_
          refine wp_block ?_
          refine lwp_list ?_
          refine ls_move (x := x4) (by kernel_rfl) (by kernel_rfl) ?_
          refine ls_p (d := some 31) (by kernel_rfl) (by kernel_rfl) (p_sub (by kernel_rfl) (by kernel_rfl) H) (fun x31 H => ?_)
          refine ls_assign (x := x31) (by kernel_rfl) (by kernel_rfl) ?_
          refine ls_nil ?_
          refine block_normal ?_
          exact ⟨⟨(fun i => ([x4, x20, x20, (D_1 0), (D_1 1), (D_1 2), (D_1 3), (D_1 4), (D_1 5), (D_1 6), x29, x4, x31]).getD i undef), x31, h_1, by kernel_rfl, HA_2, H.1⟩, loop_lt HA_2.heap HA_1.heap (by kernel_rfl) (by kernel_rfl) H.2⟩
        · refine wp_exit ?_
          refine then_exit ?_
          refine then_exit ?_
          refine block_exit ?_
          refine then_normal ?_
          refine fr_eq (b := ⟨([x0, x1, undef, undef, x4, x0, x6, x7, x8, x9, undef, undef, undef, undef, undef, undef, undef, x1, x18, x4, x20, x20, (D_1 0), (D_1 1), (D_1 2), (D_1 3), (D_1 4), (D_1 5), (D_1 6), x29, (D 11), (D 12), undef, undef, undef, undef, undef, undef, undef, undef, undef, undef, undef, undef, undef, undef, undef, undef, undef, undef] ++ [undef, undef, undef, undef, undef, undef, undef, undef, undef, undef, undef, undef, undef, undef, undef, undef, undef, undef, undef, undef, undef, undef, undef, undef, undef, undef, undef, undef, undef, undef, undef, undef, undef, undef, undef, undef, undef, undef, undef, undef, undef, undef, undef, undef, undef, undef, undef, undef, undef, undef] ++ [undef, undef, undef, undef, undef, undef, undef, undef, undef]).toArray, []⟩) (by kernel_rfl) ?_
          refine wp_seq ?_
          refine lwp_list ?_
          refine ls_move (x := x1) (by kernel_rfl) (by kernel_rfl) ?_
          refine ls_move (x := x4) (by kernel_rfl) (by kernel_rfl) ?_
          refine ls_p (d := some 34) (by kernel_rfl) (by kernel_rfl) (p_sl Tryd.underlying22 Tryd.sizeOf32 (by kernel_rfl) (by kernel_rfl) (by kernel_rfl) H) (fun x34 H => ?_)
          refine ls_d (d := some 35) (by kernel_rfl) (by kernel_rfl) HA_2 (d_call (by kernel_rfl) (by kernel_rfl) H) (fun x35 h_2 w_3 H HA_3 => ?_)
          refine ls_assign (x := x35) (by kernel_rfl) (by kernel_rfl) ?_
          refine ls_nil ?_
          refine then_normal ?_
          refine fr_eq (b := ⟨([x0, x35, undef, undef, x4, x0, x6, x7, x8, x9, undef, undef, undef, undef, undef, undef, undef, x1, x18, x4, x20, x20, (D_1 0), (D_1 1), (D_1 2), (D_1 3), (D_1 4), (D_1 5), (D_1 6), x29, (D 11), (D 12), x1, x4, x34, x35, undef, undef, undef, undef, undef, undef, undef, undef, undef, undef, undef, undef, undef, undef] ++ [undef, undef, undef, undef, undef, undef, undef, undef, undef, undef, undef, undef, undef, undef, undef, undef, undef, undef, undef, undef, undef, undef, undef, undef, undef, undef, undef, undef, undef, undef, undef, undef, undef, undef, undef, undef, undef, undef, undef, undef, undef, undef, undef, undef, undef, undef, undef, undef, undef, undef] ++ [undef, undef, undef, undef, undef, undef, undef, undef, undef]).toArray, []⟩) (by kernel_rfl) ?_
          refine wp_seq ?_
          refine wp_seq ?_
          refine lwp_qt (by kernel_rfl) (by kernel_rfl) HA_3 ?_
          refine lq_move (x := x0) (by kernel_rfl) (by kernel_rfl) ?_
          refine lq_p (d := some 37) (by kernel_rfl) (by kernel_rfl) (p_nil (by kernel_rfl) H) (fun x37 H => ?_)
          refine lq_p (d := some 38) (by kernel_rfl) (by kernel_rfl) (p_off Tryd.underlying56 rfl (fun w => ⟨_, Tryd.sizeOf39 w⟩) rfl (by kernel_rfl) H) (fun x38 H => ?_)
          refine lq_y (d := some 39) (by kernel_rfl) (by kernel_rfl) HA_3 (y_ld Tryd.isAgg39 (by kernel_rfl) H) (fun x39 H => ?_)
          refine lq_p (d := some 40) (by kernel_rfl) (by kernel_rfl) (p_len Tryd.underlying39 (by kernel_rfl) H) (fun x40 H => ?_)
          refine lq_move (x := x0) (by kernel_rfl) (by kernel_rfl) ?_
          refine lq_fr (b := ⟨([x0, x35, undef, undef, x4, x0, x6, x7, x8, x9, undef, undef, undef, undef, undef, undef, undef, x1, x18, x4, x20, x20, (D_1 0), (D_1 1), (D_1 2), (D_1 3), (D_1 4), (D_1 5), (D_1 6), x29, (D 11), (D 12), x1, x4, x34, x35, x0, x37, x38, x39, x40, x0, undef, undef, undef, undef, undef, undef, undef, undef] ++ [undef, undef, undef, undef, undef, undef, undef, undef, undef, undef, undef, undef, undef, undef, undef, undef, undef, undef, undef, undef, undef, undef, undef, undef, undef, undef, undef, undef, undef, undef, undef, undef, undef, undef, undef, undef, undef, undef, undef, undef, undef, undef, undef, undef, undef, undef, undef, undef, undef, undef] ++ [undef, undef, undef, undef, undef, undef, undef, undef, undef]).toArray, []⟩) (by kernel_rfl) ?_
          refine lq_p (d := some 42) (by kernel_rfl) (by kernel_rfl) (p_nil (by kernel_rfl) H) (fun x42 H => ?_)
          refine lq_p (d := some 43) (by kernel_rfl) (by kernel_rfl) (p_off Tryd.underlying56 rfl (fun w => ⟨_, Tryd.sizeOf3 w⟩) rfl (by kernel_rfl) H) (fun x43 H => ?_)
          refine lq_y (d := some 44) (by kernel_rfl) (by kernel_rfl) HA_3 (y_ld Tryd.isAgg3 (by kernel_rfl) H) (fun x44 H => ?_)
          refine lq_p (d := some 45) (by kernel_rfl) (by kernel_rfl) (p_sLt (by kernel_rfl) (by kernel_rfl) H) (fun x45 H => ?_)
          refine lq_nil ?_
          intro w_4 HA_4
          refine then_normal ?_
          refine fr_eq (b := ⟨([x0, x35, undef, undef, x4, x0, x6, x7, x8, x9, undef, undef, undef, undef, undef, undef, undef, x1, x18, x4, x20, x20, (D_1 0), (D_1 1), (D_1 2), (D_1 3), (D_1 4), (D_1 5), (D_1 6), x29, (D 11), (D 12), x1, x4, x34, x35, x0, x37, x38, x39, x40, x0, x42, x43, x44, x45, undef, undef, undef, undef] ++ [undef, undef, undef, undef, undef, undef, undef, undef, undef, undef, undef, undef, undef, undef, undef, undef, undef, undef, undef, undef, undef, undef, undef, undef, undef, undef, undef, undef, undef, undef, undef, undef, undef, undef, undef, undef, undef, undef, undef, undef, undef, undef, undef, undef, undef, undef, undef, undef, undef, undef] ++ [undef, undef, undef, undef, undef, undef, undef, undef, undef]).toArray, []⟩) (by kernel_rfl) ?_
          refine wp_if rfl H (fun H => ?_) (fun H => ?_)
          · refine wp_seq ?_
            refine lwp_list ?_
            refine ls_move (x := x0) (by kernel_rfl) (by kernel_rfl) ?_
            refine ls_move (x := x0) (by kernel_rfl) (by kernel_rfl) ?_
            refine ls_p (d := some 48) (by kernel_rfl) (by kernel_rfl) (p_nil (by kernel_rfl) H) (fun x48 H => ?_)
            refine ls_p (d := some 49) (by kernel_rfl) (by kernel_rfl) (p_off Tryd.underlying56 rfl (fun w => ⟨_, Tryd.sizeOf39 w⟩) rfl (by kernel_rfl) H) (fun x49 H => ?_)
            refine ls_y (d := some 50) (by kernel_rfl) (by kernel_rfl) HA_4 (y_ld Tryd.isAgg39 (by kernel_rfl) H) (fun x50 H => ?_)
            refine ls_move (x := x35) (by kernel_rfl) (by kernel_rfl) ?_
            refine ls_fr (b := ⟨([x0, x35, undef, undef, x4, x0, x6, x7, x8, x9, undef, undef, undef, undef, undef, undef, undef, x1, x18, x4, x20, x20, (D_1 0), (D_1 1), (D_1 2), (D_1 3), (D_1 4), (D_1 5), (D_1 6), x29, (D 11), (D 12), x1, x4, x34, x35, x0, x37, x38, x39, x40, x0, x42, x43, x44, x45, x0, x0, x48, x49] ++ [x50, x35, undef, undef, undef, undef, undef, undef, undef, undef, undef, undef, undef, undef, undef, undef, undef, undef, undef, undef, undef, undef, undef, undef, undef, undef, undef, undef, undef, undef, undef, undef, undef, undef, undef, undef, undef, undef, undef, undef, undef, undef, undef, undef, undef, undef, undef, undef, undef, undef] ++ [undef, undef, undef, undef, undef, undef, undef, undef, undef]).toArray, []⟩) (by kernel_rfl) ?_
            refine ls_d (d := some 52) (by kernel_rfl) (by kernel_rfl) HA_4 (d_slit (zc := #[.slice none 0 0]) Tryd.underlying39 Tryd.sizeOf22 (by decide) (.inr ⟨by decide, _, Tryd.zeroValue22, (by kernel_rfl)⟩) (by kernel_rfl) (by kernel_rfl) H) (fun x52 h_3 w_5 H HA_5 => ?_)
            refine ls_d (d := some 53) (by kernel_rfl) (by kernel_rfl) HA_5 (d_app (z := #[.slice none 0 0]) Tryd.underlying39 Tryd.underlying39 (.inl ⟨_, rfl⟩) Tryd.typeInfo22 (by kernel_rfl) Tryd.sizeOf22 Tryd.zeroValue22 (by kernel_rfl) (by kernel_rfl) (by kernel_rfl) H) (fun x53 h_4 w_6 H HA_6 => ?_)
            refine ls_p (d := some 54) (by kernel_rfl) (by kernel_rfl) (p_nil (by kernel_rfl) H) (fun x54 H => ?_)
            refine ls_p (d := some 55) (by kernel_rfl) (by kernel_rfl) (p_off Tryd.underlying56 rfl (fun w => ⟨_, Tryd.sizeOf39 w⟩) rfl (by kernel_rfl) H) (fun x55 H => ?_)
            refine ls_d (d := none) (by kernel_rfl) (by kernel_rfl) HA_6 (d_st Tryd.sizeOf39 (by kernel_rfl) (by kernel_rfl) H) (fun _ h_5 w_7 H HA_7 => ?_)
            refine ls_nil ?_
            refine then_normal ?_
            refine fr_eq (b := ⟨([x0, x35, undef, undef, x4, x0, x6, x7, x8, x9, undef, undef, undef, undef, undef, undef, undef, x1, x18, x4, x20, x20, (D_1 0), (D_1 1), (D_1 2), (D_1 3), (D_1 4), (D_1 5), (D_1 6), x29, (D 11), (D 12), x1, x4, x34, x35, x0, x37, x38, x39, x40, x0, x42, x43, x44, x45, x0, x0, x48, x49] ++ [x50, x35, x52, x53, x54, x55, undef, undef, undef, undef, undef, undef, undef, undef, undef, undef, undef, undef, undef, undef, undef, undef, undef, undef, undef, undef, undef, undef, undef, undef, undef, undef, undef, undef, undef, undef, undef, undef, undef, undef, undef, undef, undef, undef, undef, undef, undef, undef, undef, undef] ++ [undef, undef, undef, undef, undef, undef, undef, undef, undef]).toArray, []⟩) (by kernel_rfl) ?_
            refine wp_seq ?_
            refine lwp_list ?_
            refine ls_move (x := x0) (by kernel_rfl) (by kernel_rfl) ?_
            refine ls_p (d := some 57) (by kernel_rfl) (by kernel_rfl) (p_nil (by kernel_rfl) H) (fun x57 H => ?_)
            refine ls_p (d := some 58) (by kernel_rfl) (by kernel_rfl) (p_off Tryd.underlying56 rfl (fun w => ⟨_, Tryd.sizeOf3 w⟩) rfl (by kernel_rfl) H) (fun x58 H => ?_)
            refine ls_y (d := some 59) (by kernel_rfl) (by kernel_rfl) HA_7 (y_ld Tryd.isAgg3 (by kernel_rfl) H) (fun x59 H => ?_)
            refine ls_p (d := some 60) (by kernel_rfl) (by kernel_rfl) (p_add (by kernel_rfl) (by kernel_rfl) H) (fun x60 H => ?_)
            refine ls_p (d := some 61) (by kernel_rfl) (by kernel_rfl) (p_nil (by kernel_rfl) H) (fun x61 H => ?_)
            refine ls_fr (b := ⟨([x0, x35, undef, undef, x4, x0, x6, x7, x8, x9, undef, undef, undef, undef, undef, undef, undef, x1, x18, x4, x20, x20, (D_1 0), (D_1 1), (D_1 2), (D_1 3), (D_1 4), (D_1 5), (D_1 6), x29, (D 11), (D 12), x1, x4, x34, x35, x0, x37, x38, x39, x40, x0, x42, x43, x44, x45, x0, x0, x48, x49] ++ [x50, x35, x52, x53, x54, x55, x0, x57, x58, x59, x60, x61, undef, undef, undef, undef, undef, undef, undef, undef, undef, undef, undef, undef, undef, undef, undef, undef, undef, undef, undef, undef, undef, undef, undef, undef, undef, undef, undef, undef, undef, undef, undef, undef, undef, undef, undef, undef, undef, undef] ++ [undef, undef, undef, undef, undef, undef, undef, undef, undef]).toArray, []⟩) (by kernel_rfl) ?_
            refine ls_p (d := some 62) (by kernel_rfl) (by kernel_rfl) (p_off Tryd.underlying56 rfl (fun w => ⟨_, Tryd.sizeOf3 w⟩) rfl (by kernel_rfl) H) (fun x62 H => ?_)
            refine ls_d (d := none) (by kernel_rfl) (by kernel_rfl) HA_7 (d_st Tryd.sizeOf3 (by kernel_rfl) (by kernel_rfl) H) (fun _ h_6 w_8 H HA_8 => ?_)
            refine ls_nil ?_
            refine then_normal ?_
            refine fr_eq (b := ⟨([x0, x35, undef, undef, x4, x0, x6, x7, x8, x9, undef, undef, undef, undef, undef, undef, undef, x1, x18, x4, x20, x20, (D_1 0), (D_1 1), (D_1 2), (D_1 3), (D_1 4), (D_1 5), (D_1 6), x29, (D 11), (D 12), x1, x4, x34, x35, x0, x37, x38, x39, x40, x0, x42, x43, x44, x45, x0, x0, x48, x49] ++ [x50, x35, x52, x53, x54, x55, x0, x57, x58, x59, x60, x61, x62, undef, undef, undef, undef, undef, undef, undef, undef, undef, undef, undef, undef, undef, undef, undef, undef, undef, undef, undef, undef, undef, undef, undef, undef, undef, undef, undef, undef, undef, undef, undef, undef, undef, undef, undef, undef, undef] ++ [undef, undef, undef, undef, undef, undef, undef, undef, undef]).toArray, []⟩) (by kernel_rfl) ?_
            refine wp_ret ?_
            refine then_ret ?_
            exact end0 (Tryd.results11) (by kernel_rfl) HA_8 H _ (.inr rfl)
          · refine wp_skip ?_
            refine then_normal ?_
            refine fr_eq (b := ⟨([x0, x35, undef, undef, x4, x0, x6, x7, x8, x9, undef, undef, undef, undef, undef, undef, undef, x1, x18, x4, x20, x20, (D_1 0), (D_1 1), (D_1 2), (D_1 3), (D_1 4), (D_1 5), (D_1 6), x29, (D 11), (D 12), x1, x4, x34, x35, x0, x37, x38, x39, x40, x0, x42, x43, x44, x45, undef, undef, undef, undef] ++ [undef, undef, undef, undef, undef, undef, undef, undef, undef, undef, undef, undef, undef, undef, undef, undef, undef, undef, undef, undef, undef, undef, undef, undef, undef, undef, undef, undef, undef, undef, undef, undef, undef, undef, undef, undef, undef, undef, undef, undef, undef, undef, undef, undef, undef, undef, undef, undef, undef, undef] ++ [undef, undef, undef, undef, undef, undef, undef, undef, undef]).toArray, []⟩) (by kernel_rfl) ?_
            refine wp_seq ?_
            refine wp_seq ?_
            refine lwp_qt (by kernel_rfl) (by kernel_rfl) HA_4 ?_
            refine lq_move (x := x0) (by kernel_rfl) (by kernel_rfl) ?_
            refine lq_p (d := some 64) (by kernel_rfl) (by kernel_rfl) (p_nil (by kernel_rfl) H) (fun x64 H => ?_)
            refine lq_p (d := some 65) (by kernel_rfl) (by kernel_rfl) (p_off Tryd.underlying56 rfl (fun w => ⟨_, Tryd.sizeOf3 w⟩) rfl (by kernel_rfl) H) (fun x65 H => ?_)
            refine lq_y (d := some 66) (by kernel_rfl) (by kernel_rfl) HA_4 (y_ld Tryd.isAgg3 (by kernel_rfl) H) (fun x66 H => ?_)
            refine lq_move (x := x0) (by kernel_rfl) (by kernel_rfl) ?_
            refine lq_p (d := some 68) (by kernel_rfl) (by kernel_rfl) (p_nil (by kernel_rfl) H) (fun x68 H => ?_)
            refine lq_fr (b := ⟨([x0, x35, undef, undef, x4, x0, x6, x7, x8, x9, undef, undef, undef, undef, undef, undef, undef, x1, x18, x4, x20, x20, (D_1 0), (D_1 1), (D_1 2), (D_1 3), (D_1 4), (D_1 5), (D_1 6), x29, (D 11), (D 12), x1, x4, x34, x35, x0, x37, x38, x39, x40, x0, x42, x43, x44, x45, undef, undef, undef, undef] ++ [undef, undef, undef, undef, undef, undef, undef, undef, undef, undef, undef, undef, undef, x0, x64, x65, x66, x0, x68, undef, undef, undef, undef, undef, undef, undef, undef, undef, undef, undef, undef, undef, undef, undef, undef, undef, undef, undef, undef, undef, undef, undef, undef, undef, undef, undef, undef, undef, undef, undef] ++ [undef, undef, undef, undef, undef, undef, undef, undef, undef]).toArray, []⟩) (by kernel_rfl) ?_
            refine lq_p (d := some 69) (by kernel_rfl) (by kernel_rfl) (p_off Tryd.underlying56 rfl (fun w => ⟨_, Tryd.sizeOf3 w⟩) rfl (by kernel_rfl) H) (fun x69 H => ?_)
            refine lq_y (d := some 70) (by kernel_rfl) (by kernel_rfl) HA_4 (y_ld Tryd.isAgg3 (by kernel_rfl) H) (fun x70 H => ?_)
            refine lq_p (d := some 71) (by kernel_rfl) (by kernel_rfl) (p_sEq (by kernel_rfl) (by kernel_rfl) H) (fun x71 H => ?_)
            refine lq_nil ?_
            intro w_9 HA_9
            refine then_normal ?_
            refine fr_eq (b := ⟨([x0, x35, undef, undef, x4, x0, x6, x7, x8, x9, undef, undef, undef, undef, undef, undef, undef, x1, x18, x4, x20, x20, (D_1 0), (D_1 1), (D_1 2), (D_1 3), (D_1 4), (D_1 5), (D_1 6), x29, (D 11), (D 12), x1, x4, x34, x35, x0, x37, x38, x39, x40, x0, x42, x43, x44, x45, undef, undef, undef, undef] ++ [undef, undef, undef, undef, undef, undef, undef, undef, undef, undef, undef, undef, undef, x0, x64, x65, x66, x0, x68, x69, x70, x71, undef, undef, undef, undef, undef, undef, undef, undef, undef, undef, undef, undef, undef, undef, undef, undef, undef, undef, undef, undef, undef, undef, undef, undef, undef, undef, undef, undef] ++ [undef, undef, undef, undef, undef, undef, undef, undef, undef]).toArray, []⟩) (by kernel_rfl) ?_
            refine wp_join (fun a w => ∃ (D_2 : Nat → Value) (h_7 : Heap), a = ⟨([x0, x35, undef, undef, x4, x0, x6, x7, x8, x9, undef, undef, undef, undef, undef, undef, undef, x1, x18, x4, x20, x20, (D_1 0), (D_1 1), (D_1 2), (D_1 3), (D_1 4), (D_1 5), (D_1 6), x29, (D 11), (D 12), x1, x4, x34, x35, x0, x37, x38, x39, x40, x0, x42, x43, x44, x45, undef, undef, undef, undef] ++ [undef, undef, undef, undef, undef, undef, undef, undef, undef, undef, undef, undef, undef, x0, x64, x65, x66, x0, x68, x69, x70, x71, (D_2 0), (D_2 1), (D_2 2), (D_2 3), (D_2 4), (D_2 5), (D_2 6), (D_2 7), (D_2 8), (D_2 9), (D_2 10), (D_2 11), (D_2 12), (D_2 13), undef, undef, undef, undef, undef, undef, undef, undef, undef, undef, undef, undef, undef, undef] ++ [undef, undef, undef, undef, undef, undef, undef, undef, undef]).toArray, []⟩ ∧ At w0 w h_7 ∧ back_Back_Push_j2 R x0 x35 h_7) ?_ ?_
            · refine wp_if rfl H (fun H => ?_) (fun H => ?_)
              · refine lwp_list ?_
                refine ls_move (x := x0) (by kernel_rfl) (by kernel_rfl) ?_
                refine ls_p (d := some 73) (by kernel_rfl) (by kernel_rfl) (p_nil (by kernel_rfl) H) (fun x73 H => ?_)
                refine ls_p (d := some 74) (by kernel_rfl) (by kernel_rfl) (p_off Tryd.underlying56 rfl (fun w => ⟨_, Tryd.sizeOf3 w⟩) rfl (by kernel_rfl) H) (fun x74 H => ?_)
                refine ls_y (d := some 75) (by kernel_rfl) (by kernel_rfl) HA_9 (y_ld Tryd.isAgg3 (by kernel_rfl) H) (fun x75 H => ?_)
                refine ls_p (d := some 76) (by kernel_rfl) (by kernel_rfl) (p_add (by kernel_rfl) (by kernel_rfl) H) (fun x76 H => ?_)
                refine ls_p (d := some 77) (by kernel_rfl) (by kernel_rfl) (p_nil (by kernel_rfl) H) (fun x77 H => ?_)
                refine ls_fr (b := ⟨([x0, x35, undef, undef, x4, x0, x6, x7, x8, x9, undef, undef, undef, undef, undef, undef, undef, x1, x18, x4, x20, x20, (D_1 0), (D_1 1), (D_1 2), (D_1 3), (D_1 4), (D_1 5), (D_1 6), x29, (D 11), (D 12), x1, x4, x34, x35, x0, x37, x38, x39, x40, x0, x42, x43, x44, x45, undef, undef, undef, undef] ++ [undef, undef, undef, undef, undef, undef, undef, undef, undef, undef, undef, undef, undef, x0, x64, x65, x66, x0, x68, x69, x70, x71, x0, x73, x74, x75, x76, x77, undef, undef, undef, undef, undef, undef, undef, undef, undef, undef, undef, undef, undef, undef, undef, undef, undef, undef, undef, undef, undef, undef] ++ [undef, undef, undef, undef, undef, undef, undef, undef, undef]).toArray, []⟩) (by kernel_rfl) ?_
                refine ls_p (d := some 78) (by kernel_rfl) (by kernel_rfl) (p_off Tryd.underlying56 rfl (fun w => ⟨_, Tryd.sizeOf3 w⟩) rfl (by kernel_rfl) H) (fun x78 H => ?_)
                refine ls_d (d := none) (by kernel_rfl) (by kernel_rfl) HA_9 (d_st Tryd.sizeOf3 (by kernel_rfl) (by kernel_rfl) H) (fun _ h_10 w_15 H HA_15 => ?_)
                refine ls_nil ?_
                exact ⟨(fun i => ([x0, x73, x74, x75, x76, x77, x78, undef, undef, undef, undef, undef, undef, undef]).getD i undef), h_10, by kernel_rfl, HA_15, H⟩
              · refine lwp_list ?_
                refine ls_move (x := x0) (by kernel_rfl) (by kernel_rfl) ?_
                refine ls_p (d := some 80) (by kernel_rfl) (by kernel_rfl) (p_nil (by kernel_rfl) H) (fun x80 H => ?_)
                refine ls_p (d := some 81) (by kernel_rfl) (by kernel_rfl) (p_off Tryd.underlying56 rfl (fun w => ⟨_, Tryd.sizeOf3 w⟩) rfl (by kernel_rfl) H) (fun x81 H => ?_)
                refine ls_y (d := some 82) (by kernel_rfl) (by kernel_rfl) HA_9 (y_ld Tryd.isAgg3 (by kernel_rfl) H) (fun x82 H => ?_)
                refine ls_p (d := some 83) (by kernel_rfl) (by kernel_rfl) (p_add (by kernel_rfl) (by kernel_rfl) H) (fun x83 H => ?_)
                refine ls_p (d := some 84) (by kernel_rfl) (by kernel_rfl) (p_nil (by kernel_rfl) H) (fun x84 H => ?_)
                refine ls_fr (b := ⟨([x0, x35, undef, undef, x4, x0, x6, x7, x8, x9, undef, undef, undef, undef, undef, undef, undef, x1, x18, x4, x20, x20, (D_1 0), (D_1 1), (D_1 2), (D_1 3), (D_1 4), (D_1 5), (D_1 6), x29, (D 11), (D 12), x1, x4, x34, x35, x0, x37, x38, x39, x40, x0, x42, x43, x44, x45, undef, undef, undef, undef] ++ [undef, undef, undef, undef, undef, undef, undef, undef, undef, undef, undef, undef, undef, x0, x64, x65, x66, x0, x68, x69, x70, x71, undef, undef, undef, undef, undef, undef, undef, x0, x80, x81, x82, x83, x84, undef, undef, undef, undef, undef, undef, undef, undef, undef, undef, undef, undef, undef, undef, undef] ++ [undef, undef, undef, undef, undef, undef, undef, undef, undef]).toArray, []⟩) (by kernel_rfl) ?_
                refine ls_p (d := some 85) (by kernel_rfl) (by kernel_rfl) (p_off Tryd.underlying56 rfl (fun w => ⟨_, Tryd.sizeOf3 w⟩) rfl (by kernel_rfl) H) (fun x85 H => ?_)
                refine ls_d (d := none) (by kernel_rfl) (by kernel_rfl) HA_9 (d_st Tryd.sizeOf3 (by kernel_rfl) (by kernel_rfl) H) (fun _ h_11 w_16 H HA_16 => ?_)
                refine ls_nil ?_
                exact ⟨(fun i => ([undef, undef, undef, undef, undef, undef, undef, x0, x80, x81, x82, x83, x84, x85]).getD i undef), h_11, by kernel_rfl, HA_16, H⟩
            · rintro _ w_10 ⟨D_2, h_7, rfl, HA_10, H⟩
              unfold back_Back_Push_j2 at H
              refine then_normal ?_
              refine fr_eq (b := ⟨([x0, x35, undef, undef, x4, x0, x6, x7, x8, x9, undef, undef, undef, undef, undef, undef, undef, x1, x18, x4, x20, x20, (D_1 0), (D_1 1), (D_1 2), (D_1 3), (D_1 4), (D_1 5), (D_1 6), x29, (D 11), (D 12), x1, x4, x34, x35, x0, x37, x38, x39, x40, x0, x42, x43, x44, x45, undef, undef, undef, undef] ++ [undef, undef, undef, undef, undef, undef, undef, undef, undef, undef, undef, undef, undef, x0, x64, x65, x66, x0, x68, x69, x70, x71, (D_2 0), (D_2 1), (D_2 2), (D_2 3), (D_2 4), (D_2 5), (D_2 6), (D_2 7), (D_2 8), (D_2 9), (D_2 10), (D_2 11), (D_2 12), (D_2 13), undef, undef, undef, undef, undef, undef, undef, undef, undef, undef, undef, undef, undef, undef] ++ [undef, undef, undef, undef, undef, undef, undef, undef, undef]).toArray, []⟩) (by kernel_rfl) ?_
              refine wp_seq ?_
              refine lwp_mx (Nat.testBit 1024) (Nat.testBit 0) (Nat.testBit 887) [0, 1, 3, 7, 0, 16, 48, 112, 0, 511, 1023] (Nat.testBit 0) (fun h' => h' = h_7) [0, 1, 2, 3, 4, 5, 6, 7, 8, 9, 10] (by kernel_rfl) (by kernel_rfl) (by kernel_rfl) (by kernel_rfl) HA_10 rfl ?_
              intro w_11 HA_11
              refine lm_al (x := x0) (d := some 86) (by kernel_rfl) rfl (by kernel_rfl) (by kernel_rfl) (al_move (by kernel_rfl)) ?_
              refine lm_p (d := some 87) (by kernel_rfl) rfl (by kernel_rfl) (by kernel_rfl) (p_nil (by kernel_rfl) H) (fun x87 H => ?_)
              refine lm_p (d := some 88) (by kernel_rfl) rfl (by kernel_rfl) (by kernel_rfl) (p_off Tryd.underlying56 rfl (fun w => ⟨_, Tryd.sizeOf39 w⟩) rfl (by kernel_rfl) H) (fun x88 H => ?_)
              refine lm_f (d := some 89) (by kernel_rfl) rfl (by kernel_rfl) (by kernel_rfl) (by kernel_rfl) (by kernel_rfl) (of_eq (y_ld Tryd.isAgg39 (by kernel_rfl) H)) (fun x89 H => ?_)
              refine lm_al (x := x0) (d := some 90) (by kernel_rfl) rfl (by kernel_rfl) (by kernel_rfl) (al_move (by kernel_rfl)) ?_
              refine lm_p (d := some 91) (by kernel_rfl) rfl (by kernel_rfl) (by kernel_rfl) (p_nil (by kernel_rfl) H) (fun x91 H => ?_)
              refine lm_fr (b := ⟨([x0, x35, undef, undef, x4, x0, x6, x7, x8, x9, undef, undef, undef, undef, undef, undef, undef, x1, x18, x4, x20, x20, (D_1 0), (D_1 1), (D_1 2), (D_1 3), (D_1 4), (D_1 5), (D_1 6), x29, (D 11), (D 12), x1, x4, x34, x35, x0, x37, x38, x39, x40, x0, x42, x43, x44, x45, undef, undef, undef, undef] ++ [undef, undef, undef, undef, undef, undef, undef, undef, undef, undef, undef, undef, undef, x0, x64, x65, x66, x0, x68, x69, x70, x71, (D_2 0), (D_2 1), (D_2 2), (D_2 3), (D_2 4), (D_2 5), (D_2 6), (D_2 7), (D_2 8), (D_2 9), (D_2 10), (D_2 11), (D_2 12), (D_2 13), x0, x87, x88, x89, x0, x91, undef, undef, undef, undef, undef, undef, undef, undef] ++ [undef, undef, undef, undef, undef, undef, undef, undef, undef]).toArray, []⟩) (by kernel_rfl) ?_
              refine lm_p (d := some 92) (by kernel_rfl) rfl (by kernel_rfl) (by kernel_rfl) (p_off Tryd.underlying56 rfl (fun w => ⟨_, Tryd.sizeOf3 w⟩) rfl (by kernel_rfl) H) (fun x92 H => ?_)
              refine lm_f (d := some 93) (by kernel_rfl) rfl (by kernel_rfl) (by kernel_rfl) (by kernel_rfl) (by kernel_rfl) (of_eq (y_ld Tryd.isAgg3 (by kernel_rfl) H)) (fun x93 H => ?_)
              refine lm_al (x := x35) (d := some 94) (by kernel_rfl) rfl (by kernel_rfl) (by kernel_rfl) (al_move (by kernel_rfl)) ?_
              refine lm_p (d := some 95) (by kernel_rfl) rfl (by kernel_rfl) (by kernel_rfl) (p_ixs Tryd.underlying39 Tryd.sizeOf22 (by kernel_rfl) (by kernel_rfl) H) (fun x95 H => ?_)
              refine lm_d (d := none) (by kernel_rfl) rfl (by kernel_rfl) (by kernel_rfl) (by kernel_rfl) HA_11 (d_st Tryd.sizeOf22 (by kernel_rfl) (by kernel_rfl) H) (fun _ h_8 w_12 H HA_12 => ?_)
              refine lm_nil ?_
              refine then_normal ?_
              refine fr_eq (b := ⟨([x0, x35, undef, undef, x4, x0, x6, x7, x8, x9, undef, undef, undef, undef, undef, undef, undef, x1, x18, x4, x20, x20, (D_1 0), (D_1 1), (D_1 2), (D_1 3), (D_1 4), (D_1 5), (D_1 6), x29, (D 11), (D 12), x1, x4, x34, x35, x0, x37, x38, x39, x40, x0, x42, x43, x44, x45, undef, undef, undef, undef] ++ [undef, undef, undef, undef, undef, undef, undef, undef, undef, undef, undef, undef, undef, x0, x64, x65, x66, x0, x68, x69, x70, x71, (D_2 0), (D_2 1), (D_2 2), (D_2 3), (D_2 4), (D_2 5), (D_2 6), (D_2 7), (D_2 8), (D_2 9), (D_2 10), (D_2 11), (D_2 12), (D_2 13), x0, x87, x88, x89, x0, x91, x92, x93, x35, x95, undef, undef, undef, undef] ++ [undef, undef, undef, undef, undef, undef, undef, undef, undef]).toArray, []⟩) (by kernel_rfl) ?_
              refine lwp_mx (Nat.testBit 8192) (Nat.testBit 0) (Nat.testBit 7663) [0, 0, 2, 6, 14, 30, 0, 64, 192, 448, 1022, 2047, 4095, 8191] (Nat.testBit 0) (fun h' => h' = h_8) [0, 1, 2, 3, 4, 5, 6, 7, 8, 9, 10, 11, 12, 13] (by kernel_rfl) (by kernel_rfl) (by kernel_rfl) (by kernel_rfl) HA_12 rfl ?_
              intro w_13 HA_13
              refine lm_al (x := x0) (d := some 96) (by kernel_rfl) rfl (by kernel_rfl) (by kernel_rfl) (al_move (by kernel_rfl)) ?_
              refine lm_al (x := x0) (d := some 97) (by kernel_rfl) rfl (by kernel_rfl) (by kernel_rfl) (al_move (by kernel_rfl)) ?_
              refine lm_p (d := some 98) (by kernel_rfl) rfl (by kernel_rfl) (by kernel_rfl) (p_nil (by kernel_rfl) H) (fun x98 H => ?_)
              refine lm_p (d := some 99) (by kernel_rfl) rfl (by kernel_rfl) (by kernel_rfl) (p_off Tryd.underlying56 rfl (fun w => ⟨_, Tryd.sizeOf3 w⟩) rfl (by kernel_rfl) H) (fun x99 H => ?_)
              refine lm_f (d := some 100) (by kernel_rfl) rfl (by kernel_rfl) (by kernel_rfl) (by kernel_rfl) (by kernel_rfl) (of_eq (y_ld Tryd.isAgg3 (by kernel_rfl) H)) (fun x100 H => ?_)
              refine lm_p (d := some 101) (by kernel_rfl) rfl (by kernel_rfl) (by kernel_rfl) (p_add (by kernel_rfl) (by kernel_rfl) H) (fun x101 H => ?_)
              refine lm_fr (b := ⟨([x0, x35, undef, undef, x4, x0, x6, x7, x8, x9, undef, undef, undef, undef, undef, undef, undef, x1, x18, x4, x20, x20, (D_1 0), (D_1 1), (D_1 2), (D_1 3), (D_1 4), (D_1 5), (D_1 6), x29, (D 11), (D 12), x1, x4, x34, x35, x0, x37, x38, x39, x40, x0, x42, x43, x44, x45, undef, undef, undef, undef] ++ [undef, undef, undef, undef, undef, undef, undef, undef, undef, undef, undef, undef, undef, x0, x64, x65, x66, x0, x68, x69, x70, x71, (D_2 0), (D_2 1), (D_2 2), (D_2 3), (D_2 4), (D_2 5), (D_2 6), (D_2 7), (D_2 8), (D_2 9), (D_2 10), (D_2 11), (D_2 12), (D_2 13), x0, x87, x88, x89, x0, x91, x92, x93, x35, x95, x0, x0, x98, x99] ++ [x100, x101, undef, undef, undef, undef, undef, undef, undef]).toArray, []⟩) (by kernel_rfl) ?_
              refine lm_al (x := x0) (d := some 102) (by kernel_rfl) rfl (by kernel_rfl) (by kernel_rfl) (al_move (by kernel_rfl)) ?_
              refine lm_p (d := some 103) (by kernel_rfl) rfl (by kernel_rfl) (by kernel_rfl) (p_nil (by kernel_rfl) H) (fun x103 H => ?_)
              refine lm_p (d := some 104) (by kernel_rfl) rfl (by kernel_rfl) (by kernel_rfl) (p_off Tryd.underlying56 rfl (fun w => ⟨_, Tryd.sizeOf3 w⟩) rfl (by kernel_rfl) H) (fun x104 H => ?_)
              refine lm_f (d := some 105) (by kernel_rfl) rfl (by kernel_rfl) (by kernel_rfl) (by kernel_rfl) (by kernel_rfl) (of_eq (y_ld Tryd.isAgg3 (by kernel_rfl) H)) (fun x105 H => ?_)
              refine lm_p (d := some 106) (by kernel_rfl) rfl (by kernel_rfl) (by kernel_rfl) (p_rem (by kernel_rfl) (by kernel_rfl) H) (fun x106 H => ?_)
              refine lm_p (d := some 107) (by kernel_rfl) rfl (by kernel_rfl) (by kernel_rfl) (p_nil (by kernel_rfl) H) (fun x107 H => ?_)
              refine lm_fr (b := ⟨([x0, x35, undef, undef, x4, x0, x6, x7, x8, x9, undef, undef, undef, undef, undef, undef, undef, x1, x18, x4, x20, x20, (D_1 0), (D_1 1), (D_1 2), (D_1 3), (D_1 4), (D_1 5), (D_1 6), x29, (D 11), (D 12), x1, x4, x34, x35, x0, x37, x38, x39, x40, x0, x42, x43, x44, x45, undef, undef, undef, undef] ++ [undef, undef, undef, undef, undef, undef, undef, undef, undef, undef, undef, undef, undef, x0, x64, x65, x66, x0, x68, x69, x70, x71, (D_2 0), (D_2 1), (D_2 2), (D_2 3), (D_2 4), (D_2 5), (D_2 6), (D_2 7), (D_2 8), (D_2 9), (D_2 10), (D_2 11), (D_2 12), (D_2 13), x0, x87, x88, x89, x0, x91, x92, x93, x35, x95, x0, x0, x98, x99] ++ [x100, x101, x0, x103, x104, x105, x106, x107, undef]).toArray, []⟩) (by kernel_rfl) ?_
              refine lm_p (d := some 108) (by kernel_rfl) rfl (by kernel_rfl) (by kernel_rfl) (p_off Tryd.underlying56 rfl (fun w => ⟨_, Tryd.sizeOf3 w⟩) rfl (by kernel_rfl) H) (fun x108 H => ?_)
              refine lm_d (d := none) (by kernel_rfl) rfl (by kernel_rfl) (by kernel_rfl) (by kernel_rfl) HA_13 (d_st Tryd.sizeOf3 (by kernel_rfl) (by kernel_rfl) H) (fun _ h_9 w_14 H HA_14 => ?_)
              refine lm_nil ?_
              exact end0 (Tryd.results11) (by kernel_rfl) HA_14 H _ (.inl rfl)

end Go.Proofs.YtjlpgakoedigoaaDoor
