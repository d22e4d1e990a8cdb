/- The shallow reading of one function, and that the function does it. Written by a program. -/
import Derived.Test.YtjlpgakoedigoaaDoorFnC
set_option linter.unusedVariables false
namespace Go.Proofs.YtjlpgakoedigoaaDoor
open Go Go.HW

def back_Text_j2 (next : Value → Heap → Prop) (x8 : Value) (h_2 : Heap) : Prop :=
  sAdd .i64 x8 (.int .i64 1) fun x23 =>
  next x23 h_2
def back_Text_l1 (R : Value → Heap → Prop) (x0 x3 x7 : Value) (next : Value → Heap → Prop) (x8 : Value) (h_1 : Heap) : Prop :=
  sLt x8 x7 fun x9 =>
  sIf x9 (sIxS x0 x8 4 fun x10 =>
  sLdN h_1 x10 4 fun x11 =>
  sNew h_1 #[.int .i32 0, .int .i64 0, .int .i64 0, .int .i64 0] 32 fun x5 h_3 => 
  sStN h_3 x5 x11 4 fun h_4 => 
  sOff x5 0 fun x12 =>
  sLd h_4 x12 fun x13 =>
  sEq x13 (.int .i32 (-1)) fun x19 =>
  sIf x19 (back_Text_j2 next x8 h_4) (sEq x13 (.int .i32 0) fun x21 =>
  sIf x21 (strings_Builder_WriteByte_c x3 (.int .u8 32) h_4 fun x22 h_5 => 
  back_Text_j2 next x8 h_5) (sOff x5 0 fun x14 =>
  sLd h_4 x14 fun x15 =>
  utf_Put_c x15 h_4 fun x16 h_6 => 
  strings_Builder_Write_c x3 x16 h_6 fun x17 h_7 => 
  back_Text_j2 next x8 h_7))) (strings_Builder_String_c x3 h_1 fun x24 h_8 => 
  strings_TrimRight_c x24 (.string ⟨#[32]⟩) h_8 fun x25 h_9 => 
  R x25 h_9)
def back_Text_S (x0 : Value) (h : Heap) (R : Value → Heap → Prop) : Prop :=
  sNew h #[.pointer none, .slice none 0 0] 45 fun x3 h => 
  sLen x0 fun x7 =>
  sLoop (S := Value) (fun nxt s h => back_Text_l1 R x0 x3 x7 (fun x8' h => nxt x8' h) s h) (.int .i64 0) h
set_option maxRecDepth 100000 in
theorem back_Text_runs {x0 : Value} {h : Heap} {R : Value → Heap → Prop} (H : back_Text_S x0 h R) : back_Text_c x0 h R := by
  unfold back_Text_S at H
  refine runs_of (b := ⟨#[x0, undef, undef, undef, undef, undef, undef, undef, undef, undef, undef, undef, undef, undef, undef, undef, undef, undef, undef, undef, undef, undef, undef, undef, undef, undef], []⟩) Tryd.call8 Tryd.func8 rfl (by kernel_rfl) (fun w0 HA => ?_)
  refine wp_seq ?_
  refine lwp_list ?_
  refine ls_assign (x := (.string ⟨#[]⟩)) (by kernel_rfl) (by kernel_rfl) ?_
  refine ls_nil ?_
  refine then_normal ?_
  refine fr_eq (b := ⟨#[x0, undef, (.string ⟨#[]⟩), undef, undef, undef, undef, undef, undef, undef, undef, undef, undef, undef, undef, undef, undef, undef, undef, undef, undef, undef, undef, undef, undef, undef], []⟩) (by kernel_rfl) ?_
  refine wp_seq ?_
  refine lwp_list ?_
  refine ls_d (d := some 3) (by kernel_rfl) (by kernel_rfl) HA (d_alloc Tryd.zeroValue45 H) (fun x3 h w H HA => ?_)
  refine ls_nil ?_
  refine then_normal ?_
  refine fr_eq (b := ⟨#[x0, undef, (.string ⟨#[]⟩), x3, undef, undef, undef, undef, undef, undef, undef, undef, undef, undef, undef, undef, undef, undef, undef, undef, undef, undef, undef, undef, undef, undef], []⟩) (by kernel_rfl) ?_
  refine wp_seq ?_
  refine wp_seq ?_
  refine lwp_list ?_
  refine ls_move (x := x0) (by kernel_rfl) (by kernel_rfl) ?_
  refine ls_p (d := some 7) (by kernel_rfl) (by kernel_rfl) (p_len Tryd.underlying22 (by kernel_rfl) H) (fun x7 H => ?_)
  refine ls_move (x := (.int .i64 0)) (by kernel_rfl) (by kernel_rfl) ?_
  refine ls_nil ?_
  refine then_normal ?_
  refine fr_eq (b := ⟨#[x0, undef, (.string ⟨#[]⟩), x3, undef, undef, x0, x7, (.int .i64 0), undef, undef, undef, undef, undef, undef, undef, undef, undef, undef, undef, undef, undef, undef, undef, undef, undef], []⟩) (by kernel_rfl) ?_
  refine wp_block ?_
  obtain ⟨I, m, H0, HB⟩ := H
  refine wp_loop (fun a w => ∃ (D : Nat → Value) (x8 : Value) (h_1 : Heap), a = ⟨#[x0, undef, (.string ⟨#[]⟩), x3, undef, (D 0), x0, x7, x8, (D 1), (D 2), (D 3), (D 4), (D 5), (D 6), (D 7), (D 8), (D 9), (D 10), (D 11), (D 12), (D 13), (D 14), (D 15), undef, undef], []⟩ ∧ At w0 w h_1 ∧ I x8 h_1) (fun a w => m (a.tmps.getD 8 undef) w.heap) ?_ ?_
  · exact ⟨(fun i => ([undef, undef, undef, undef, undef, undef, undef, undef, undef, undef, undef, undef, undef, undef, undef, undef]).getD i undef), (.int .i64 0), h, by kernel_rfl, HA, H0⟩
  · rintro _ w_1 ⟨D, x8, h_1, rfl, HA_1, HI⟩
    have H : back_Text_l1 R x0 x3 x7 (fun x8' h' => I x8' h' ∧ m x8' h' < m x8 h_1) x8 h_1 := HB x8 h_1 HI
    clear HB H0 HI
    unfold back_Text_l1 at H
    refine wp_seq ?_
    refine lwp_list ?_
    refine ls_p (d := some 9) (by kernel_rfl) (by kernel_rfl) (p_sLt (by kernel_rfl) (by kernel_rfl) H) (fun x9 H => ?_)
    refine ls_nil ?_
    refine then_normal ?_
    refine fr_eq (b := ⟨#[x0, undef, (.string ⟨#[]⟩), x3, undef, (D 0), x0, x7, x8, x9, (D 2), (D 3), (D 4), (D 5), (D 6), (D 7), (D 8), (D 9), (D 10), (D 11), (D 12), (D 13), (D 14), (D 15), undef, undef], []⟩) (by kernel_rfl) ?_
    refine wp_seq ?_
    refine wp_if rfl H (fun H => ?_) (fun H => ?_)
    · refine wp_skip ?_
      refine then_normal ?_
      refine fr_eq (b := ⟨#[x0, undef, (.string ⟨#[]⟩), x3, undef, (D 0), x0, x7, x8, x9, (D 2), (D 3), (D 4), (D 5), (D 6), (D 7), (D 8), (D 9), (D 10), (D 11), (D 12), (D 13), (D 14), (D 15), undef, undef], []⟩) (by kernel_rfl) ?_
      refine wp_seq ?_
      refine wp_join (fun a w => ∃ (D_1 : Nat → Value) (h_2 : Heap), a = ⟨#[x0, undef, (.string ⟨#[]⟩), x3, undef, (D_1 0), x0, x7, x8, x9, (D_1 1), (D_1 2), (D_1 3), (D_1 4), (D_1 5), (D_1 6), (D_1 7), (D_1 8), (D_1 9), (D_1 10), (D_1 11), (D_1 12), (D_1 13), (D 15), undef, undef], []⟩ ∧ At w0 w h_2 ∧ back_Text_j2 (fun x8' h' => I x8' h' ∧ m x8' h' < m x8 h_1) x8 h_2) ?_ ?_
      · refine wp_block ?_
        refine wp_seq ?_
        refine lwp_list ?_
        refine ls_p (d := some 10) (by kernel_rfl) (by kernel_rfl) (p_ixs Tryd.underlying22 Tryd.sizeOf32 (by kernel_rfl) (by kernel_rfl) H) (fun x10 H => ?_)
        refine ls_y (d := some 11) (by kernel_rfl) (by kernel_rfl) HA_1 (y_ldn Tryd.isAgg32 Tryd.sizeOf32 (by kernel_rfl) H) (fun x11 H => ?_)
        refine ls_d (d := some 5) (by kernel_rfl) (by kernel_rfl) HA_1 (d_alloc Tryd.zeroValue32 H) (fun x5 h_3 w_3 H HA_3 => ?_)
        refine ls_d (d := none) (by kernel_rfl) (by kernel_rfl) HA_3 (d_stn Tryd.sizeOf32 (by kernel_rfl) (by kernel_rfl) H) (fun _ h_4 w_4 H HA_4 => ?_)
        refine ls_nil ?_
        refine then_normal ?_
        refine fr_eq (b := ⟨#[x0, undef, (.string ⟨#[]⟩), x3, undef, x5, x0, x7, x8, x9, x10, x11, (D 4), (D 5), (D 6), (D 7), (D 8), (D 9), (D 10), (D 11), (D 12), (D 13), (D 14), (D 15), undef, undef], []⟩) (by kernel_rfl) ?_
        refine wp_seq ?_
        refine lwp_list ?_
        refine ls_p (d := some 12) (by kernel_rfl) (by kernel_rfl) (p_off Tryd.underlying32 rfl (fun w => ⟨_, Tryd.sizeOf21 w⟩) rfl (by kernel_rfl) H) (fun x12 H => ?_)
        refine ls_y (d := some 13) (by kernel_rfl) (by kernel_rfl) HA_4 (y_ld Tryd.isAgg21 (by kernel_rfl) H) (fun x13 H => ?_)
        refine ls_nil ?_
        refine then_normal ?_
        refine fr_eq (b := ⟨#[x0, undef, (.string ⟨#[]⟩), x3, undef, x5, x0, x7, x8, x9, x10, x11, x12, x13, (D 6), (D 7), (D 8), (D 9), (D 10), (D 11), (D 12), (D 13), (D 14), (D 15), undef, undef], []⟩) (by kernel_rfl) ?_
        refine wp_block ?_
        refine wp_seq ?_
        refine lwp_list ?_
        refine ls_p (d := some 19) (by kernel_rfl) (by kernel_rfl) (p_sEq (by kernel_rfl) (by kernel_rfl) H) (fun x19 H => ?_)
        refine ls_assign (x := x19) (by kernel_rfl) (by kernel_rfl) ?_
        refine ls_nil ?_
        refine then_normal ?_
        refine fr_eq (b := ⟨#[x0, undef, (.string ⟨#[]⟩), x3, undef, x5, x0, x7, x8, x9, x10, x11, x12, x13, (D 6), (D 7), (D 8), (D 9), x19, x19, (D 12), (D 13), (D 14), (D 15), undef, undef], []⟩) (by kernel_rfl) ?_
        refine wp_if rfl H (fun H => ?_) (fun H => ?_)
        · refine wp_skip ?_
          refine block_normal ?_
          refine block_normal ?_
          exact ⟨(fun i => ([x5, x10, x11, x12, x13, (D 6), (D 7), (D 8), (D 9), x19, x19, (D 12), (D 13), (D 14)]).getD i undef), h_4, by kernel_rfl, HA_4, H⟩
        · refine wp_seq ?_
          refine lwp_list ?_
          refine ls_p (d := some 21) (by kernel_rfl) (by kernel_rfl) (p_sEq (by kernel_rfl) (by kernel_rfl) H) (fun x21 H => ?_)
          refine ls_assign (x := x21) (by kernel_rfl) (by kernel_rfl) ?_
          refine ls_nil ?_
          refine then_normal ?_
          refine fr_eq (b := ⟨#[x0, undef, (.string ⟨#[]⟩), x3, undef, x5, x0, x7, x8, x9, x10, x11, x12, x13, (D 6), (D 7), (D 8), (D 9), x19, x19, x21, x21, (D 14), (D 15), undef, undef], []⟩) (by kernel_rfl) ?_
          refine wp_if rfl H (fun H => ?_) (fun H => ?_)
          · refine lwp_list ?_
            refine ls_d (d := some 22) (by kernel_rfl) (by kernel_rfl) HA_4 (d_call (by kernel_rfl) (by kernel_rfl) H) (fun x22 h_5 w_5 H HA_5 => ?_)
            refine ls_nil ?_
            refine block_normal ?_
            refine block_normal ?_
            exact ⟨(fun i => ([x5, x10, x11, x12, x13, (D 6), (D 7), (D 8), (D 9), x19, x19, x21, x21, x22]).getD i undef), h_5, by kernel_rfl, HA_5, H⟩
          · refine lwp_list ?_
            refine ls_p (d := some 14) (by kernel_rfl) (by kernel_rfl) (p_off Tryd.underlying32 rfl (fun w => ⟨_, Tryd.sizeOf21 w⟩) rfl (by kernel_rfl) H) (fun x14 H => ?_)
            refine ls_y (d := some 15) (by kernel_rfl) (by kernel_rfl) HA_4 (y_ld Tryd.isAgg21 (by kernel_rfl) H) (fun x15 H => ?_)
            refine ls_d (d := some 16) (by kernel_rfl) (by kernel_rfl) HA_4 (d_call (by kernel_rfl) (by kernel_rfl) H) (fun x16 h_6 w_6 H HA_6 => ?_)
            refine ls_d (d := some 17) (by kernel_rfl) (by kernel_rfl) HA_6 (d_call (by kernel_rfl) (by kernel_rfl) H) (fun x17 h_7 w_7 H HA_7 => ?_)
            refine ls_nil ?_
            refine block_normal ?_
            refine block_normal ?_
            exact ⟨(fun i => ([x5, x10, x11, x12, x13, x14, x15, x16, x17, x19, x19, x21, x21, (D 14)]).getD i undef), h_7, by kernel_rfl, HA_7, H⟩
      · rintro _ w_2 ⟨D_1, h_2, rfl, HA_2, H⟩
        unfold back_Text_j2 at H
        refine then_normal ?_
        refine fr_eq (b := ⟨#[x0, undef, (.string ⟨#[]⟩), x3, undef, (D_1 0), x0, x7, x8, x9, (D_1 1), (D_1 2), (D_1 3), (D_1 4), (D_1 5), (D_1 6), (D_1 7), (D_1 8), (D_1 9), (D_1 10), (D_1 11), (D_1 12), (D_1 13), (D 15), undef, undef], []⟩) (by kernel_rfl) ?_
        refine lwp_list ?_
        refine ls_p (d := some 23) (by kernel_rfl) (by kernel_rfl) (p_add (by kernel_rfl) (by kernel_rfl) H) (fun x23 H => ?_)
        refine ls_move (x := x23) (by kernel_rfl) (by kernel_rfl) ?_
        refine ls_nil ?_
        exact ⟨⟨(fun i => ([(D_1 0), x9, (D_1 1), (D_1 2), (D_1 3), (D_1 4), (D_1 5), (D_1 6), (D_1 7), (D_1 8), (D_1 9), (D_1 10), (D_1 11), (D_1 12), (D_1 13), x23]).getD i undef), x23, h_2, by kernel_rfl, HA_2, H.1⟩, loop_lt HA_2.heap HA_1.heap (by kernel_rfl) (by kernel_rfl) H.2⟩
    · refine wp_exit ?_
      refine then_exit ?_
      refine then_exit ?_
      refine block_exit ?_
      refine then_normal ?_
      refine fr_eq (b := ⟨#[x0, undef, (.string ⟨#[]⟩), x3, undef, (D 0), x0, x7, x8, x9, (D 2), (D 3), (D 4), (D 5), (D 6), (D 7), (D 8), (D 9), (D 10), (D 11), (D 12), (D 13), (D 14), (D 15), undef, undef], []⟩) (by kernel_rfl) ?_
      refine wp_seq ?_
      refine lwp_list ?_
      refine ls_d (d := some 24) (by kernel_rfl) (by kernel_rfl) HA_1 (d_call (by kernel_rfl) (by kernel_rfl) H) (fun x24 h_8 w_8 H HA_8 => ?_)
      refine ls_d (d := some 25) (by kernel_rfl) (by kernel_rfl) HA_8 (d_call (by kernel_rfl) (by kernel_rfl) H) (fun x25 h_9 w_9 H HA_9 => ?_)
      refine ls_assign (x := x25) (by kernel_rfl) (by kernel_rfl) ?_
      refine ls_nil ?_
      refine then_normal ?_
      refine fr_eq (b := ⟨#[x0, undef, x25, x3, undef, (D 0), x0, x7, x8, x9, (D 2), (D 3), (D 4), (D 5), (D 6), (D 7), (D 8), (D 9), (D 10), (D 11), (D 12), (D 13), (D 14), (D 15), x24, x25], []⟩) (by kernel_rfl) ?_
      refine wp_ret ?_
      exact end1 (Tryd.results8) (by kernel_rfl) (by kernel_rfl) HA_9 H _ (.inr rfl)

end Go.Proofs.YtjlpgakoedigoaaDoor
