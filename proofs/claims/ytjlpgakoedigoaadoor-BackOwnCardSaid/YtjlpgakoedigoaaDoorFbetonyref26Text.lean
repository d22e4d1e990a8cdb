/- The shallow reading of one function, and that the function does it. Written by a program. -/
import Derived.Test.YtjlpgakoedigoaaDoorFnC
import Derived.Test.YtjlpgakoedigoaaDoorHwStr
set_option linter.unusedVariables false
namespace Go.Proofs.YtjlpgakoedigoaaDoor
open Go Go.HW

def betonyref26_Text_j2 (next : Value → Value → Heap → Prop) (x4 x3_1 : Value) (h_1 : Heap) : Prop :=
  sAdd .i64 x4 (.int .i64 1) fun x10 =>
  next x3_1 x10 h_1
def betonyref26_Text_l3 (R : Value → Heap → Prop) (next : Value → Heap → Prop) (x3_2 : Value) (h_6 : Heap) : Prop :=
  sLen x3_2 fun x36 =>
  sGt x36 (.int .i64 0) fun x37 =>
  sAnd x37 (fun k =>
  sLen x3_2 fun x41 =>
  sSub .i64 x41 (.int .i64 1) fun x42 =>
  sIxS x3_2 x42 1 fun x43 =>
  sLd h_6 x43 fun x44 =>
  sEq x44 (.int .u8 32) fun x45 =>
  k x45) fun x46 =>
  sIf x46 (sLen x3_2 fun x49 =>
  sSub .i64 x49 (.int .i64 1) fun x50 =>
  sSl x3_2 none (some x50) 1 fun x51 =>
  next x51 h_6) (sB2S h_6 x3_2 fun x53 h_7 => 
  R x53 h_7)
def betonyref26_Text_l1 (R : Value → Heap → Prop) (x0 : Value) (next : Value → Value → Heap → Prop) (x3 x4 : Value) (h : Heap) : Prop :=
  sLen x0 fun x7 =>
  sLt x4 x7 fun x8 =>
  sIf x8 (sIxS x0 x4 4 fun x13 =>
  sOff x13 0 fun x14 =>
  sLd h x14 fun x15 =>
  sEq x15 (.int .i32 0) fun x16 =>
  sIf x16 (sSlit h #[.int .u8 0] [(0, 1, (.int .u8 32))] 5 1 fun x18 h_2 => 
  sApp h_2 x3 x18 #[.int .u8 0] 5 1 fun x19 h_3 => 
  betonyref26_Text_j2 next x4 x19 h_3) (sIxS x0 x4 4 fun x22 =>
  sOff x22 0 fun x23 =>
  sLd h x23 fun x24 =>
  sNe x24 (.int .i32 (-1)) fun x25 =>
  sIf x25 (sIxS x0 x4 4 fun x29 =>
  sOff x29 0 fun x30 =>
  sLd h x30 fun x31 =>
  sConv .i64 x31 fun x32 =>
  betonyref02_Put_c x32 h fun x33 h_4 => 
  sApp h_4 x3 x33 #[.int .u8 0] 5 1 fun x34 h_5 => 
  betonyref26_Text_j2 next x4 x34 h_5) (betonyref26_Text_j2 next x4 x3 h))) (sLoop (S := Value) (fun nxt s h => betonyref26_Text_l3 R (fun x3_2' h => nxt x3_2' h) s h) x3 h)
def betonyref26_Text_S (x0 : Value) (h : Heap) (R : Value → Heap → Prop) : Prop :=
  sLoop (S := Value × Value) (fun nxt s h => betonyref26_Text_l1 R x0 (fun x3' x4' h => nxt (x3', x4') h) s.1 s.2 h) ((.slice none 0 0), (.int .i64 0)) h
set_option maxRecDepth 100000 in
theorem betonyref26_Text_runs {x0 : Value} {h : Heap} {R : Value → Heap → Prop} (H : betonyref26_Text_S x0 h R) : betonyref26_Text_c x0 h R := by
  unfold betonyref26_Text_S at H
  refine runs_of (b := ⟨#[x0, undef, undef, undef, undef, undef, undef, undef, undef, undef, undef, undef, undef, undef, undef, undef, undef, undef, undef, undef, undef, undef, undef, undef, undef, undef, undef, undef, undef, undef, undef, undef, undef, undef, undef, undef, undef, undef, undef, undef, undef, undef, undef, undef, undef, undef, undef, undef, undef, undef, undef, undef, undef, undef], []⟩) Tryd.call9 Tryd.func9 rfl (by kernel_rfl) (fun w0 HA => ?_)
  refine wp_seq ?_
  refine lwp_list ?_
  refine ls_assign (x := (.string ⟨#[]⟩)) (by kernel_rfl) (by kernel_rfl) ?_
  refine ls_nil ?_
  refine then_normal ?_
  refine fr_eq (b := ⟨#[x0, undef, (.string ⟨#[]⟩), undef, undef, undef, undef, undef, undef, undef, undef, undef, undef, undef, undef, undef, undef, undef, undef, undef, undef, undef, undef, undef, undef, undef, undef, undef, undef, undef, undef, undef, undef, undef, undef, undef, undef, undef, undef, undef, undef, undef, undef, undef, undef, undef, undef, undef, undef, undef, undef, undef, undef, undef], []⟩) (by kernel_rfl) ?_
  refine wp_seq ?_
  refine lwp_list ?_
  refine ls_assign (x := (.slice none 0 0)) (by kernel_rfl) (by kernel_rfl) ?_
  refine ls_nil ?_
  refine then_normal ?_
  refine fr_eq (b := ⟨#[x0, undef, (.string ⟨#[]⟩), (.slice none 0 0), undef, undef, undef, undef, undef, undef, undef, undef, undef, undef, undef, undef, undef, undef, undef, undef, undef, undef, undef, undef, undef, undef, undef, undef, undef, undef, undef, undef, undef, undef, undef, undef, undef, undef, undef, undef, undef, undef, undef, undef, undef, undef, undef, undef, undef, undef, undef, undef, undef, undef], []⟩) (by kernel_rfl) ?_
  refine wp_seq ?_
  refine wp_seq ?_
  refine lwp_list ?_
  refine ls_assign (x := (.int .i64 0)) (by kernel_rfl) (by kernel_rfl) ?_
  refine ls_nil ?_
  refine then_normal ?_
  refine fr_eq (b := ⟨#[x0, undef, (.string ⟨#[]⟩), (.slice none 0 0), (.int .i64 0), undef, undef, undef, undef, undef, undef, undef, undef, undef, undef, undef, undef, undef, undef, undef, undef, undef, undef, undef, undef, undef, undef, undef, undef, undef, undef, undef, undef, undef, undef, undef, undef, undef, undef, undef, undef, undef, undef, undef, undef, undef, undef, undef, undef, undef, undef, undef, undef, undef], []⟩) (by kernel_rfl) ?_
  refine wp_block ?_
  obtain ⟨I, m, H0, HB⟩ := H
  refine wp_loop (fun a w => ∃ (D : Nat → Value) (x3 x4 : Value) (h : Heap), a = ⟨#[x0, undef, (.string ⟨#[]⟩), x3, x4, (D 0), (D 1), (D 2), (D 3), (D 4), (D 5), (D 6), (D 7), (D 8), (D 9), (D 10), (D 11), (D 12), (D 13), (D 14), (D 15), (D 16), (D 17), (D 18), (D 19), (D 20), (D 21), (D 22), (D 23), (D 24), (D 25), (D 26), (D 27), (D 28), (D 29), undef, undef, undef, undef, undef, undef, undef, undef, undef, undef, undef, undef, undef, undef, undef, undef, undef, undef, undef], []⟩ ∧ At w0 w h ∧ I (x3, x4) h) (fun a w => m ((a.tmps.getD 3 undef), (a.tmps.getD 4 undef)) w.heap) ?_ ?_
  · exact ⟨(fun i => ([undef, undef, undef, undef, undef, undef, undef, undef, undef, undef, undef, undef, undef, undef, undef, undef, undef, undef, undef, undef, undef, undef, undef, undef, undef, undef, undef, undef, undef, undef]).getD i undef), (.slice none 0 0), (.int .i64 0), h, by kernel_rfl, HA, H0⟩
  · rintro _ w ⟨D, x3, x4, h, rfl, HA, HI⟩
    have H : betonyref26_Text_l1 R x0 (fun x3' x4' h' => I (x3', x4') h' ∧ m (x3', x4') h' < m (x3, x4) h) x3 x4 h := HB (x3, x4) h HI
    clear HB H0 HI
    unfold betonyref26_Text_l1 at H
    refine wp_seq ?_
    refine wp_seq ?_
    refine lwp_list ?_
    refine ls_move (x := x4) (by kernel_rfl) (by kernel_rfl) ?_
    refine ls_move (x := x0) (by kernel_rfl) (by kernel_rfl) ?_
    refine ls_p (d := some 7) (by kernel_rfl) (by kernel_rfl) (p_len Tryd.underlying22 (by kernel_rfl) H) (fun x7 H => ?_)
    refine ls_p (d := some 8) (by kernel_rfl) (by kernel_rfl) (p_sLt (by kernel_rfl) (by kernel_rfl) H) (fun x8 H => ?_)
    refine ls_nil ?_
    refine then_normal ?_
    refine fr_eq (b := ⟨#[x0, undef, (.string ⟨#[]⟩), x3, x4, x4, x0, x7, x8, (D 4), (D 5), (D 6), (D 7), (D 8), (D 9), (D 10), (D 11), (D 12), (D 13), (D 14), (D 15), (D 16), (D 17), (D 18), (D 19), (D 20), (D 21), (D 22), (D 23), (D 24), (D 25), (D 26), (D 27), (D 28), (D 29), undef, undef, undef, undef, undef, undef, undef, undef, undef, undef, undef, undef, undef, undef, undef, undef, undef, undef, undef], []⟩) (by kernel_rfl) ?_
    refine wp_if rfl H (fun H => ?_) (fun H => ?_)
    · refine wp_skip ?_
      refine then_normal ?_
      refine fr_eq (b := ⟨#[x0, undef, (.string ⟨#[]⟩), x3, x4, x4, x0, x7, x8, (D 4), (D 5), (D 6), (D 7), (D 8), (D 9), (D 10), (D 11), (D 12), (D 13), (D 14), (D 15), (D 16), (D 17), (D 18), (D 19), (D 20), (D 21), (D 22), (D 23), (D 24), (D 25), (D 26), (D 27), (D 28), (D 29), undef, undef, undef, undef, undef, undef, undef, undef, undef, undef, undef, undef, undef, undef, undef, undef, undef, undef, undef], []⟩) (by kernel_rfl) ?_
      refine wp_seq ?_
      refine wp_join (fun a w => ∃ (D_1 : Nat → Value) (x3_1 : Value) (h_1 : Heap), a = ⟨#[x0, undef, (.string ⟨#[]⟩), x3_1, x4, x4, x0, x7, x8, (D 4), (D 5), (D_1 0), (D_1 1), (D_1 2), (D_1 3), (D_1 4), (D_1 5), (D_1 6), (D_1 7), (D_1 8), (D_1 9), (D_1 10), (D_1 11), (D_1 12), (D_1 13), (D_1 14), (D_1 15), (D_1 16), (D_1 17), (D_1 18), (D_1 19), (D_1 20), (D_1 21), (D_1 22), (D_1 23), undef, undef, undef, undef, undef, undef, undef, undef, undef, undef, undef, undef, undef, undef, undef, undef, undef, undef, undef], []⟩ ∧ At w0 w h_1 ∧ betonyref26_Text_j2 (fun x3' x4' h' => I (x3', x4') h' ∧ m (x3', x4') h' < m (x3, x4) h) x4 x3_1 h_1) ?_ ?_
      · refine wp_block ?_
        refine wp_seq ?_
        refine lwp_list ?_
        refine ls_move (x := x0) (by kernel_rfl) (by kernel_rfl) ?_
        refine ls_move (x := x4) (by kernel_rfl) (by kernel_rfl) ?_
        refine ls_p (d := some 13) (by kernel_rfl) (by kernel_rfl) (p_ixs Tryd.underlying22 Tryd.sizeOf32 (by kernel_rfl) (by kernel_rfl) H) (fun x13 H => ?_)
        refine ls_p (d := some 14) (by kernel_rfl) (by kernel_rfl) (p_off Tryd.underlying32 rfl (fun w => ⟨_, Tryd.sizeOf21 w⟩) rfl (by kernel_rfl) H) (fun x14 H => ?_)
        refine ls_y (d := some 15) (by kernel_rfl) (by kernel_rfl) HA (y_ld Tryd.isAgg21 (by kernel_rfl) H) (fun x15 H => ?_)
        refine ls_p (d := some 16) (by kernel_rfl) (by kernel_rfl) (p_sEq (by kernel_rfl) (by kernel_rfl) H) (fun x16 H => ?_)
        refine ls_nil ?_
        refine then_normal ?_
        refine fr_eq (b := ⟨#[x0, undef, (.string ⟨#[]⟩), x3, x4, x4, x0, x7, x8, (D 4), (D 5), x0, x4, x13, x14, x15, x16, (D 12), (D 13), (D 14), (D 15), (D 16), (D 17), (D 18), (D 19), (D 20), (D 21), (D 22), (D 23), (D 24), (D 25), (D 26), (D 27), (D 28), (D 29), undef, undef, undef, undef, undef, undef, undef, undef, undef, undef, undef, undef, undef, undef, undef, undef, undef, undef, undef], []⟩) (by kernel_rfl) ?_
        refine wp_if rfl H (fun H => ?_) (fun H => ?_)
        · refine lwp_list ?_
          refine ls_move (x := x3) (by kernel_rfl) (by kernel_rfl) ?_
          refine ls_d (d := some 18) (by kernel_rfl) (by kernel_rfl) HA (d_slit (zc := #[.int .u8 0]) Tryd.underlying43 Tryd.sizeOf5 (by decide) (.inr ⟨by decide, _, Tryd.zeroValue5, (by kernel_rfl)⟩) (by kernel_rfl) (by kernel_rfl) H) (fun x18 h_2 w_2 H HA_2 => ?_)
          refine ls_d (d := some 19) (by kernel_rfl) (by kernel_rfl) HA_2 (d_app (z := #[.int .u8 0]) Tryd.underlying43 Tryd.underlying43 (.inl ⟨_, rfl⟩) Tryd.typeInfo5 (by kernel_rfl) Tryd.sizeOf5 Tryd.zeroValue5 (by kernel_rfl) (by kernel_rfl) (by kernel_rfl) H) (fun x19 h_3 w_3 H HA_3 => ?_)
          refine ls_assign (x := x19) (by kernel_rfl) (by kernel_rfl) ?_
          refine ls_nil ?_
          refine block_normal ?_
          exact ⟨(fun i => ([x0, x4, x13, x14, x15, x16, x3, x18, x19, (D 15), (D 16), (D 17), (D 18), (D 19), (D 20), (D 21), (D 22), (D 23), (D 24), (D 25), (D 26), (D 27), (D 28), (D 29)]).getD i undef), x19, h_3, by kernel_rfl, HA_3, H⟩
        · refine wp_seq ?_
          refine lwp_list ?_
          refine ls_move (x := x0) (by kernel_rfl) (by kernel_rfl) ?_
          refine ls_move (x := x4) (by kernel_rfl) (by kernel_rfl) ?_
          refine ls_p (d := some 22) (by kernel_rfl) (by kernel_rfl) (p_ixs Tryd.underlying22 Tryd.sizeOf32 (by kernel_rfl) (by kernel_rfl) H) (fun x22 H => ?_)
          refine ls_p (d := some 23) (by kernel_rfl) (by kernel_rfl) (p_off Tryd.underlying32 rfl (fun w => ⟨_, Tryd.sizeOf21 w⟩) rfl (by kernel_rfl) H) (fun x23 H => ?_)
          refine ls_y (d := some 24) (by kernel_rfl) (by kernel_rfl) HA (y_ld Tryd.isAgg21 (by kernel_rfl) H) (fun x24 H => ?_)
          refine ls_p (d := some 25) (by kernel_rfl) (by kernel_rfl) (p_sNe (by kernel_rfl) (by kernel_rfl) H) (fun x25 H => ?_)
          refine ls_nil ?_
          refine then_normal ?_
          refine fr_eq (b := ⟨#[x0, undef, (.string ⟨#[]⟩), x3, x4, x4, x0, x7, x8, (D 4), (D 5), x0, x4, x13, x14, x15, x16, (D 12), (D 13), (D 14), x0, x4, x22, x23, x24, x25, (D 21), (D 22), (D 23), (D 24), (D 25), (D 26), (D 27), (D 28), (D 29), undef, undef, undef, undef, undef, undef, undef, undef, undef, undef, undef, undef, undef, undef, undef, undef, undef, undef, undef], []⟩) (by kernel_rfl) ?_
          refine wp_if rfl H (fun H => ?_) (fun H => ?_)
          · refine lwp_list ?_
            refine ls_move (x := x3) (by kernel_rfl) (by kernel_rfl) ?_
            refine ls_move (x := x0) (by kernel_rfl) (by kernel_rfl) ?_
            refine ls_move (x := x4) (by kernel_rfl) (by kernel_rfl) ?_
            refine ls_p (d := some 29) (by kernel_rfl) (by kernel_rfl) (p_ixs Tryd.underlying22 Tryd.sizeOf32 (by kernel_rfl) (by kernel_rfl) H) (fun x29 H => ?_)
            refine ls_p (d := some 30) (by kernel_rfl) (by kernel_rfl) (p_off Tryd.underlying32 rfl (fun w => ⟨_, Tryd.sizeOf21 w⟩) rfl (by kernel_rfl) H) (fun x30 H => ?_)
            refine ls_y (d := some 31) (by kernel_rfl) (by kernel_rfl) HA (y_ld Tryd.isAgg21 (by kernel_rfl) H) (fun x31 H => ?_)
            refine ls_fr (b := ⟨#[x0, undef, (.string ⟨#[]⟩), x3, x4, x4, x0, x7, x8, (D 4), (D 5), x0, x4, x13, x14, x15, x16, (D 12), (D 13), (D 14), x0, x4, x22, x23, x24, x25, x3, x0, x4, x29, x30, x31, (D 27), (D 28), (D 29), undef, undef, undef, undef, undef, undef, undef, undef, undef, undef, undef, undef, undef, undef, undef, undef, undef, undef, undef], []⟩) (by kernel_rfl) ?_
            refine ls_p (d := some 32) (by kernel_rfl) (by kernel_rfl) (p_conv Tryd.underlying21 Tryd.underlying3 (by kernel_rfl) H) (fun x32 H => ?_)
            refine ls_d (d := some 33) (by kernel_rfl) (by kernel_rfl) HA (d_call (by kernel_rfl) (by kernel_rfl) H) (fun x33 h_4 w_4 H HA_4 => ?_)
            refine ls_d (d := some 34) (by kernel_rfl) (by kernel_rfl) HA_4 (d_app (z := #[.int .u8 0]) Tryd.underlying43 Tryd.underlying43 (.inl ⟨_, rfl⟩) Tryd.typeInfo5 (by kernel_rfl) Tryd.sizeOf5 Tryd.zeroValue5 (by kernel_rfl) (by kernel_rfl) (by kernel_rfl) H) (fun x34 h_5 w_5 H HA_5 => ?_)
            refine ls_assign (x := x34) (by kernel_rfl) (by kernel_rfl) ?_
            refine ls_nil ?_
            refine block_normal ?_
            exact ⟨(fun i => ([x0, x4, x13, x14, x15, x16, (D 12), (D 13), (D 14), x0, x4, x22, x23, x24, x25, x3, x0, x4, x29, x30, x31, x32, x33, x34]).getD i undef), x34, h_5, by kernel_rfl, HA_5, H⟩
          · refine wp_skip ?_
            refine block_normal ?_
            exact ⟨(fun i => ([x0, x4, x13, x14, x15, x16, (D 12), (D 13), (D 14), x0, x4, x22, x23, x24, x25, (D 21), (D 22), (D 23), (D 24), (D 25), (D 26), (D 27), (D 28), (D 29)]).getD i undef), x3, h, by kernel_rfl, HA, H⟩
      · rintro _ w_1 ⟨D_1, x3_1, h_1, rfl, HA_1, H⟩
        unfold betonyref26_Text_j2 at H
        refine then_normal ?_
        refine fr_eq (b := ⟨#[x0, undef, (.string ⟨#[]⟩), x3_1, x4, x4, x0, x7, x8, (D 4), (D 5), (D_1 0), (D_1 1), (D_1 2), (D_1 3), (D_1 4), (D_1 5), (D_1 6), (D_1 7), (D_1 8), (D_1 9), (D_1 10), (D_1 11), (D_1 12), (D_1 13), (D_1 14), (D_1 15), (D_1 16), (D_1 17), (D_1 18), (D_1 19), (D_1 20), (D_1 21), (D_1 22), (D_1 23), undef, undef, undef, undef, undef, undef, undef, undef, undef, undef, undef, undef, undef, undef, undef, undef, undef, undef, undef], []⟩) (by kernel_rfl) ?_
        refine lwp_list ?_
        refine ls_move (x := x4) (by kernel_rfl) (by kernel_rfl) ?_
        refine ls_p (d := some 10) (by kernel_rfl) (by kernel_rfl) (p_add (by kernel_rfl) (by kernel_rfl) H) (fun x10 H => ?_)
        refine ls_assign (x := x10) (by kernel_rfl) (by kernel_rfl) ?_
        refine ls_nil ?_
        exact ⟨⟨(fun i => ([x4, x0, x7, x8, x4, x10, (D_1 0), (D_1 1), (D_1 2), (D_1 3), (D_1 4), (D_1 5), (D_1 6), (D_1 7), (D_1 8), (D_1 9), (D_1 10), (D_1 11), (D_1 12), (D_1 13), (D_1 14), (D_1 15), (D_1 16), (D_1 17), (D_1 18), (D_1 19), (D_1 20), (D_1 21), (D_1 22), (D_1 23)]).getD i undef), x3_1, x10, h_1, by kernel_rfl, HA_1, H.1⟩, loop_lt HA_1.heap HA.heap (by kernel_rfl) (by kernel_rfl) H.2⟩
    · refine wp_exit ?_
      refine then_exit ?_
      refine then_exit ?_
      refine block_exit ?_
      refine then_normal ?_
      refine fr_eq (b := ⟨#[x0, undef, (.string ⟨#[]⟩), x3, x4, x4, x0, x7, x8, (D 4), (D 5), (D 6), (D 7), (D 8), (D 9), (D 10), (D 11), (D 12), (D 13), (D 14), (D 15), (D 16), (D 17), (D 18), (D 19), (D 20), (D 21), (D 22), (D 23), (D 24), (D 25), (D 26), (D 27), (D 28), (D 29), undef, undef, undef, undef, undef, undef, undef, undef, undef, undef, undef, undef, undef, undef, undef, undef, undef, undef, undef], []⟩) (by kernel_rfl) ?_
      refine wp_seq ?_
      refine wp_block ?_
      obtain ⟨I_1, m_1, H0, HB⟩ := H
      refine wp_loop (fun a w => ∃ (D_2 : Nat → Value) (x3_2 : Value) (h_6 : Heap), a = ⟨#[x0, undef, (.string ⟨#[]⟩), x3_2, x4, x4, x0, x7, x8, (D 4), (D 5), (D 6), (D 7), (D 8), (D 9), (D 10), (D 11), (D 12), (D 13), (D 14), (D 15), (D 16), (D 17), (D 18), (D 19), (D 20), (D 21), (D 22), (D 23), (D 24), (D 25), (D 26), (D 27), (D 28), (D 29), (D_2 0), (D_2 1), (D_2 2), (D_2 3), (D_2 4), (D_2 5), (D_2 6), (D_2 7), (D_2 8), (D_2 9), (D_2 10), (D_2 11), (D_2 12), (D_2 13), (D_2 14), (D_2 15), (D_2 16), undef, undef], []⟩ ∧ At w0 w h_6 ∧ I_1 x3_2 h_6) (fun a w => m_1 (a.tmps.getD 3 undef) w.heap) ?_ ?_
      · exact ⟨(fun i => ([undef, undef, undef, undef, undef, undef, undef, undef, undef, undef, undef, undef, undef, undef, undef, undef, undef]).getD i undef), x3, h, by kernel_rfl, HA, H0⟩
      · rintro _ w_6 ⟨D_2, x3_2, h_6, rfl, HA_6, HI⟩
        have H : betonyref26_Text_l3 R (fun x3_2' h' => I_1 x3_2' h' ∧ m_1 x3_2' h' < m_1 x3_2 h_6) x3_2 h_6 := HB x3_2 h_6 HI
        clear HB H0 HI
        unfold betonyref26_Text_l3 at H
        refine wp_seq ?_
        refine wp_seq ?_
        refine lwp_list ?_
        refine ls_move (x := x3_2) (by kernel_rfl) (by kernel_rfl) ?_
        refine ls_p (d := some 36) (by kernel_rfl) (by kernel_rfl) (p_len Tryd.underlying43 (by kernel_rfl) H) (fun x36 H => ?_)
        refine ls_p (d := some 37) (by kernel_rfl) (by kernel_rfl) (p_sGt (by kernel_rfl) (by kernel_rfl) H) (fun x37 H => ?_)
        refine ls_move (x := x37) (by kernel_rfl) (by kernel_rfl) ?_
        refine ls_and [(), (), (), (), (), (), (), ()] (fun K a w => ∃ (D_3 : Nat → Value) (x46 : Value), a = ⟨#[x0, undef, (.string ⟨#[]⟩), x3_2, x4, x4, x0, x7, x8, (D 4), (D 5), (D 6), (D 7), (D 8), (D 9), (D 10), (D 11), (D 12), (D 13), (D 14), (D 15), (D 16), (D 17), (D 18), (D 19), (D 20), (D 21), (D 22), (D 23), (D 24), (D 25), (D 26), (D 27), (D 28), (D 29), x3_2, x36, x37, x37, (D_3 0), (D_3 1), (D_3 2), (D_3 3), (D_3 4), (D_3 5), (D_3 6), x46, (D_2 12), (D_2 13), (D_2 14), (D_2 15), (D_2 16), undef, undef], []⟩ ∧ At w0 w h_6 ∧ K x46) H (fun hb H => ?_) (fun hb H => ?_) ?_
        · refine ls_move (x := x3_2) (by rw [hb]; kernel_rfl) (by kernel_rfl) ?_
          refine ls_move (x := x3_2) (by rw [hb]; kernel_rfl) (by kernel_rfl) ?_
          refine ls_fr (b := ⟨#[x0, undef, (.string ⟨#[]⟩), x3_2, x4, x4, x0, x7, x8, (D 4), (D 5), (D 6), (D 7), (D 8), (D 9), (D 10), (D 11), (D 12), (D 13), (D 14), (D 15), (D 16), (D 17), (D 18), (D 19), (D 20), (D 21), (D 22), (D 23), (D 24), (D 25), (D 26), (D 27), (D 28), (D 29), x3_2, x36, x37, x37, x3_2, x3_2, (D_2 6), (D_2 7), (D_2 8), (D_2 9), (D_2 10), (D_2 11), (D_2 12), (D_2 13), (D_2 14), (D_2 15), (D_2 16), undef, undef], []⟩) (by kernel_rfl) ?_
          refine ls_p (d := some 41) (by kernel_rfl) (by rw [hb]; kernel_rfl) (p_len Tryd.underlying43 (by kernel_rfl) H) (fun x41 H => ?_)
          refine ls_p (d := some 42) (by kernel_rfl) (by rw [hb]; kernel_rfl) (p_sub (by kernel_rfl) (by kernel_rfl) H) (fun x42 H => ?_)
          refine ls_p (d := some 43) (by kernel_rfl) (by rw [hb]; kernel_rfl) (p_ixs Tryd.underlying43 Tryd.sizeOf5 (by kernel_rfl) (by kernel_rfl) H) (fun x43 H => ?_)
          refine ls_y (d := some 44) (by kernel_rfl) (by rw [hb]; kernel_rfl) HA_6 (y_ld Tryd.isAgg5 (by kernel_rfl) H) (fun x44 H => ?_)
          refine ls_p (d := some 45) (by kernel_rfl) (by rw [hb]; kernel_rfl) (p_sEq (by kernel_rfl) (by kernel_rfl) H) (fun x45 H => ?_)
          refine ls_pick_t (x := x45) (by kernel_rfl) (by rw [hb]; kernel_rfl) (by kernel_rfl) ?_
          refine ls_nil ?_
          refine then_normal ?_
          exact ⟨(fun i => ([x3_2, x3_2, x41, x42, x43, x44, x45]).getD i undef), x45, by kernel_rfl, HA_6, H⟩
        · refine ls_skip (d := some 39) (by kernel_rfl) (by rw [hb]; kernel_rfl) ?_
          refine ls_skip (d := some 40) (by kernel_rfl) (by rw [hb]; kernel_rfl) ?_
          refine ls_fr (b := ⟨#[x0, undef, (.string ⟨#[]⟩), x3_2, x4, x4, x0, x7, x8, (D 4), (D 5), (D 6), (D 7), (D 8), (D 9), (D 10), (D 11), (D 12), (D 13), (D 14), (D 15), (D 16), (D 17), (D 18), (D 19), (D 20), (D 21), (D 22), (D 23), (D 24), (D 25), (D 26), (D 27), (D 28), (D 29), x3_2, x36, x37, x37, undef, undef, (D_2 6), (D_2 7), (D_2 8), (D_2 9), (D_2 10), (D_2 11), (D_2 12), (D_2 13), (D_2 14), (D_2 15), (D_2 16), undef, undef], []⟩) (by kernel_rfl) ?_
          refine ls_skip (d := some 41) (by kernel_rfl) (by rw [hb]; kernel_rfl) ?_
          refine ls_skip (d := some 42) (by kernel_rfl) (by rw [hb]; kernel_rfl) ?_
          refine ls_skip (d := some 43) (by kernel_rfl) (by rw [hb]; kernel_rfl) ?_
          refine ls_skip (d := some 44) (by kernel_rfl) (by rw [hb]; kernel_rfl) ?_
          refine ls_skip (d := some 45) (by kernel_rfl) (by rw [hb]; kernel_rfl) ?_
          refine ls_pick_f (y := (.bool false)) (by kernel_rfl) (by rw [hb]; kernel_rfl) (by kernel_rfl) ?_
          refine ls_nil ?_
          refine then_normal ?_
          exact ⟨(fun i => ([undef, undef, undef, undef, undef, undef, undef]).getD i undef), (.bool false), by kernel_rfl, HA_6, H⟩
        · rintro _ w_7 ⟨D_3, x46, rfl, HA_7, H⟩
          refine ls_nil ?_
          refine then_normal ?_
          refine fr_eq (b := ⟨#[x0, undef, (.string ⟨#[]⟩), x3_2, x4, x4, x0, x7, x8, (D 4), (D 5), (D 6), (D 7), (D 8), (D 9), (D 10), (D 11), (D 12), (D 13), (D 14), (D 15), (D 16), (D 17), (D 18), (D 19), (D 20), (D 21), (D 22), (D 23), (D 24), (D 25), (D 26), (D 27), (D 28), (D 29), x3_2, x36, x37, x37, (D_3 0), (D_3 1), (D_3 2), (D_3 3), (D_3 4), (D_3 5), (D_3 6), x46, (D_2 12), (D_2 13), (D_2 14), (D_2 15), (D_2 16), undef, undef], []⟩) (by kernel_rfl) ?_
          refine wp_if rfl H (fun H => ?_) (fun H => ?_)
          · refine wp_skip ?_
            refine then_normal ?_
            refine fr_eq (b := ⟨#[x0, undef, (.string ⟨#[]⟩), x3_2, x4, x4, x0, x7, x8, (D 4), (D 5), (D 6), (D 7), (D 8), (D 9), (D 10), (D 11), (D 12), (D 13), (D 14), (D 15), (D 16), (D 17), (D 18), (D 19), (D 20), (D 21), (D 22), (D 23), (D 24), (D 25), (D 26), (D 27), (D 28), (D 29), x3_2, x36, x37, x37, (D_3 0), (D_3 1), (D_3 2), (D_3 3), (D_3 4), (D_3 5), (D_3 6), x46, (D_2 12), (D_2 13), (D_2 14), (D_2 15), (D_2 16), undef, undef], []⟩) (by kernel_rfl) ?_
            refine wp_block ?_
            refine lwp_list ?_
            refine ls_move (x := x3_2) (by kernel_rfl) (by kernel_rfl) ?_
            refine ls_move (x := x3_2) (by kernel_rfl) (by kernel_rfl) ?_
            refine ls_p (d := some 49) (by kernel_rfl) (by kernel_rfl) (p_len Tryd.underlying43 (by kernel_rfl) H) (fun x49 H => ?_)
            refine ls_p (d := some 50) (by kernel_rfl) (by kernel_rfl) (p_sub (by kernel_rfl) (by kernel_rfl) H) (fun x50 H => ?_)
            refine ls_p (d := some 51) (by kernel_rfl) (by kernel_rfl) (p_sl Tryd.underlying43 Tryd.sizeOf5 (by kernel_rfl) (by kernel_rfl) (by kernel_rfl) H) (fun x51 H => ?_)
            refine ls_assign (x := x51) (by kernel_rfl) (by kernel_rfl) ?_
            refine ls_nil ?_
            refine block_normal ?_
            exact ⟨⟨(fun i => ([x3_2, x36, x37, x37, (D_3 0), (D_3 1), (D_3 2), (D_3 3), (D_3 4), (D_3 5), (D_3 6), x46, x3_2, x3_2, x49, x50, x51]).getD i undef), x51, h_6, by kernel_rfl, HA_7, H.1⟩, loop_lt HA_7.heap HA_6.heap (by kernel_rfl) (by kernel_rfl) H.2⟩
          · refine wp_exit ?_
            refine then_exit ?_
            refine then_exit ?_
            refine block_exit ?_
            refine then_normal ?_
            refine fr_eq (b := ⟨#[x0, undef, (.string ⟨#[]⟩), x3_2, x4, x4, x0, x7, x8, (D 4), (D 5), (D 6), (D 7), (D 8), (D 9), (D 10), (D 11), (D 12), (D 13), (D 14), (D 15), (D 16), (D 17), (D 18), (D 19), (D 20), (D 21), (D 22), (D 23), (D 24), (D 25), (D 26), (D 27), (D 28), (D 29), x3_2, x36, x37, x37, (D_3 0), (D_3 1), (D_3 2), (D_3 3), (D_3 4), (D_3 5), (D_3 6), x46, (D_2 12), (D_2 13), (D_2 14), (D_2 15), (D_2 16), undef, undef], []⟩) (by kernel_rfl) ?_
            refine wp_seq ?_
            refine lwp_list ?_
            refine ls_move (x := x3_2) (by kernel_rfl) (by kernel_rfl) ?_
            refine ls_d (d := some 53) (by kernel_rfl) (by kernel_rfl) HA_7 (d_b2s Tryd.underlying43 Tryd.underlying5 Tryd.underlying9 (by kernel_rfl) H) (fun x53 h_7 w_8 H HA_8 => ?_)
            refine ls_assign (x := x53) (by kernel_rfl) (by kernel_rfl) ?_
            refine ls_nil ?_
            refine then_normal ?_
            refine fr_eq (b := ⟨#[x0, undef, x53, x3_2, x4, x4, x0, x7, x8, (D 4), (D 5), (D 6), (D 7), (D 8), (D 9), (D 10), (D 11), (D 12), (D 13), (D 14), (D 15), (D 16), (D 17), (D 18), (D 19), (D 20), (D 21), (D 22), (D 23), (D 24), (D 25), (D 26), (D 27), (D 28), (D 29), x3_2, x36, x37, x37, (D_3 0), (D_3 1), (D_3 2), (D_3 3), (D_3 4), (D_3 5), (D_3 6), x46, (D_2 12), (D_2 13), (D_2 14), (D_2 15), (D_2 16), x3_2, x53], []⟩) (by kernel_rfl) ?_
            refine wp_ret ?_
            exact end1 (Tryd.results9) (by kernel_rfl) (by kernel_rfl) HA_8 H _ (.inr rfl)

end Go.Proofs.YtjlpgakoedigoaaDoor
