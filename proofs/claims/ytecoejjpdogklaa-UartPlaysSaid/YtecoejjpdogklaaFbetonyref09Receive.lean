/- The shallow reading of one function, and that the function does it. Written by a program. -/
import Derived.Test.YtecoejjpdogklaaFnC
set_option linter.unusedVariables false
namespace Go.Proofs.Ytecoejjpdogklaa
open Go Go.HW

def betonyref09_Receive_j1 (R : Value → Heap → Prop) (x2 x4 x8 x10 : Value) (h_4 : Heap) : Prop :=
  sSlit h_4 #[] [] 48 0 fun x24 h_5 => 
  sOff x4 0 fun x25 =>
  sLd h_5 x25 fun x26 =>
  sApp h_5 x24 x26 #[.int .u8 0, .int .i64 0] 48 16 fun x27 h_6 => 
  sBuild #[.int .u8 0, .int .i64 0] [(0, 1, x2), (1, 1, x10)] fun x30 =>
  sSlit h_6 #[.int .u8 0, .int .i64 0] [(0, 2, x30)] 48 1 fun x31 h_7 => 
  sApp h_7 x27 x31 #[.int .u8 0, .int .i64 0] 48 16 fun x32 h_8 => 
  sOff x4 0 fun x33 =>
  sSt h_8 x33 x32 fun h_9 => 
  sOff x4 2 fun x34 =>
  sSt h_9 x34 (.bool false) fun h_10 => 
  sLdN h_10 x4 3 fun x35 =>
  sStN h_10 x8 x35 3 fun h_11 => 
  sLdN h_11 x8 3 fun r8_1 =>
  R (.tuple #[r8_1, (.bool true)]) h_11
def betonyref09_Receive_S (x0 x1 x2 x3 : Value) (h : Heap) (R : Value → Heap → Prop) : Prop :=
  sBox h x0 55 fun x4 h => 
  sNew h #[.slice none 0 0, .slice none 0 0, .bool false] 55 fun x8 h_1 => 
  sOff x4 0 fun x11 =>
  sLd h_1 x11 fun x12 =>
  sLen x12 fun x13 =>
  sGe x13 x1 fun x15 =>
  sIf x15 (sOff x4 2 fun x16 =>
  sSt h_1 x16 (.bool true) fun h_2 => 
  sLdN h_2 x4 3 fun x17 =>
  sStN h_2 x8 x17 3 fun h_3 => 
  sLdN h_3 x8 3 fun r8 =>
  R (.tuple #[r8, (.bool false)]) h_3) (sBits .and .i64 x3 (.int .i64 6) fun x19 =>
  sOff x4 2 fun x20 =>
  sLd h_1 x20 fun x21 =>
  sIf x21 (sBits .or .i64 x19 (.int .i64 1) fun x23 =>
  betonyref09_Receive_j1 R x2 x4 x8 x23 h_1) (betonyref09_Receive_j1 R x2 x4 x8 x19 h_1))
set_option maxRecDepth 100000 in
theorem betonyref09_Receive_runs {x0 x1 x2 x3 : Value} {h : Heap} {R : Value → Heap → Prop} (H : betonyref09_Receive_S x0 x1 x2 x3 h R) : betonyref09_Receive_c x0 x1 x2 x3 h R := by
  unfold betonyref09_Receive_S at H
  refine runs_of (b := ⟨#[x0, x1, x2, x3, undef, undef, undef, undef, undef, undef, undef, undef, undef, undef, undef, undef, undef, undef, undef, undef, undef, undef, undef, undef, undef, undef, undef, undef, undef, undef, undef, undef, undef, undef, undef, undef], []⟩) Try.call32 Try.func32 rfl (by kernel_rfl) (fun w0 HA => ?_)
  refine wp_seq ?_
  refine lwp_list ?_
  refine ls_d (d := some 4) (by kernel_rfl) (by kernel_rfl) HA (d_box (by kernel_rfl) H) (fun x4 h w H HA => ?_)
  refine ls_d (d := some 8) (by kernel_rfl) (by kernel_rfl) HA (d_alloc Try.zeroValue55 H) (fun x8 h_1 w_1 H HA_1 => ?_)
  refine ls_assign (x := (.bool false)) (by kernel_rfl) (by kernel_rfl) ?_
  refine ls_nil ?_
  refine then_normal ?_
  refine fr_eq (b := ⟨#[x0, x1, x2, x3, x4, undef, undef, undef, x8, (.bool false), undef, undef, undef, undef, undef, undef, undef, undef, undef, undef, undef, undef, undef, undef, undef, undef, undef, undef, undef, undef, undef, undef, undef, undef, undef, undef], []⟩) (by kernel_rfl) ?_
  refine wp_seq ?_
  refine wp_seq ?_
  refine lwp_list ?_
  refine ls_p (d := some 11) (by kernel_rfl) (by kernel_rfl) (p_off Try.underlying55 rfl (fun w => ⟨_, Try.sizeOf53 w⟩) rfl (by kernel_rfl) H) (fun x11 H => ?_)
  refine ls_y (d := some 12) (by kernel_rfl) (by kernel_rfl) HA_1 (y_ld Try.isAgg53 (by kernel_rfl) H) (fun x12 H => ?_)
  refine ls_p (d := some 13) (by kernel_rfl) (by kernel_rfl) (p_len Try.underlying53 (by kernel_rfl) H) (fun x13 H => ?_)
  refine ls_move (x := x1) (by kernel_rfl) (by kernel_rfl) ?_
  refine ls_p (d := some 15) (by kernel_rfl) (by kernel_rfl) (p_sGe (by kernel_rfl) (by kernel_rfl) H) (fun x15 H => ?_)
  refine ls_nil ?_
  refine then_normal ?_
  refine fr_eq (b := ⟨#[x0, x1, x2, x3, x4, undef, undef, undef, x8, (.bool false), undef, x11, x12, x13, x1, x15, undef, undef, undef, undef, undef, undef, undef, undef, undef, undef, undef, undef, undef, undef, undef, undef, undef, undef, undef, undef], []⟩) (by kernel_rfl) ?_
  refine wp_if rfl H (fun H => ?_) (fun H => ?_)
  · refine wp_seq ?_
    refine lwp_list ?_
    refine ls_p (d := some 16) (by kernel_rfl) (by kernel_rfl) (p_off Try.underlying55 rfl (fun w => ⟨_, Try.sizeOf4 w⟩) rfl (by kernel_rfl) H) (fun x16 H => ?_)
    refine ls_d (d := none) (by kernel_rfl) (by kernel_rfl) HA_1 (d_st Try.sizeOf4 (by kernel_rfl) (by kernel_rfl) H) (fun _ h_2 w_2 H HA_2 => ?_)
    refine ls_nil ?_
    refine then_normal ?_
    refine fr_eq (b := ⟨#[x0, x1, x2, x3, x4, undef, undef, undef, x8, (.bool false), undef, x11, x12, x13, x1, x15, x16, undef, undef, undef, undef, undef, undef, undef, undef, undef, undef, undef, undef, undef, undef, undef, undef, undef, undef, undef], []⟩) (by kernel_rfl) ?_
    refine wp_seq ?_
    refine lwp_list ?_
    refine ls_y (d := some 17) (by kernel_rfl) (by kernel_rfl) HA_2 (y_ldn Try.isAgg55 Try.sizeOf55 (by kernel_rfl) H) (fun x17 H => ?_)
    refine ls_d (d := none) (by kernel_rfl) (by kernel_rfl) HA_2 (d_stn Try.sizeOf55 (by kernel_rfl) (by kernel_rfl) H) (fun _ h_3 w_3 H HA_3 => ?_)
    refine ls_assign (x := (.bool false)) (by kernel_rfl) (by kernel_rfl) ?_
    refine ls_nil ?_
    refine then_normal ?_
    refine fr_eq (b := ⟨#[x0, x1, x2, x3, x4, undef, undef, undef, x8, (.bool false), undef, x11, x12, x13, x1, x15, x16, x17, undef, undef, undef, undef, undef, undef, undef, undef, undef, undef, undef, undef, undef, undef, undef, undef, undef, undef], []⟩) (by kernel_rfl) ?_
    refine wp_ret ?_
    refine then_ret ?_
    obtain ⟨r8, hr8, H⟩ := ld_n Try.isAgg55 Try.sizeOf55 H
    exact endR (vs := [r8, (.bool false)]) (Try.results32) (by kernel_rfl) ⟨⟨_, (by kernel_rfl), hr8⟩, (by kernel_rfl), trivial⟩ HA_3 H _ (.inr rfl)
  · refine wp_skip ?_
    refine then_normal ?_
    refine fr_eq (b := ⟨#[x0, x1, x2, x3, x4, undef, undef, undef, x8, (.bool false), undef, x11, x12, x13, x1, x15, undef, undef, undef, undef, undef, undef, undef, undef, undef, undef, undef, undef, undef, undef, undef, undef, undef, undef, undef, undef], []⟩) (by kernel_rfl) ?_
    refine wp_seq ?_
    refine lwp_list ?_
    refine ls_move (x := x3) (by kernel_rfl) (by kernel_rfl) ?_
    refine ls_p (d := some 19) (by kernel_rfl) (by kernel_rfl) (p_bits (by decide) (by kernel_rfl) (by kernel_rfl) H) (fun x19 H => ?_)
    refine ls_assign (x := x19) (by kernel_rfl) (by kernel_rfl) ?_
    refine ls_nil ?_
    refine then_normal ?_
    refine fr_eq (b := ⟨#[x0, x1, x2, x3, x4, undef, undef, undef, x8, (.bool false), x19, x11, x12, x13, x1, x15, undef, undef, x3, x19, undef, undef, undef, undef, undef, undef, undef, undef, undef, undef, undef, undef, undef, undef, undef, undef], []⟩) (by kernel_rfl) ?_
    refine wp_seq ?_
    refine wp_seq ?_
    refine lwp_list ?_
    refine ls_p (d := some 20) (by kernel_rfl) (by kernel_rfl) (p_off Try.underlying55 rfl (fun w => ⟨_, Try.sizeOf4 w⟩) rfl (by kernel_rfl) H) (fun x20 H => ?_)
    refine ls_y (d := some 21) (by kernel_rfl) (by kernel_rfl) HA_1 (y_ld Try.isAgg4 (by kernel_rfl) H) (fun x21 H => ?_)
    refine ls_nil ?_
    refine then_normal ?_
    refine fr_eq (b := ⟨#[x0, x1, x2, x3, x4, undef, undef, undef, x8, (.bool false), x19, x11, x12, x13, x1, x15, undef, undef, x3, x19, x20, x21, undef, undef, undef, undef, undef, undef, undef, undef, undef, undef, undef, undef, undef, undef], []⟩) (by kernel_rfl) ?_
    refine wp_join (fun a w => ∃ (D : Nat → Value) (x10 : Value) (h_4 : Heap), a = ⟨#[x0, x1, x2, x3, x4, undef, undef, undef, x8, (.bool false), x10, x11, x12, x13, x1, x15, undef, undef, x3, x19, x20, x21, (D 0), (D 1), undef, undef, undef, undef, undef, undef, undef, undef, undef, undef, undef, undef], []⟩ ∧ At w0 w h_4 ∧ betonyref09_Receive_j1 R x2 x4 x8 x10 h_4) ?_ ?_
    · refine wp_if rfl H (fun H => ?_) (fun H => ?_)
      · refine lwp_list ?_
        refine ls_move (x := x19) (by kernel_rfl) (by kernel_rfl) ?_
        refine ls_p (d := some 23) (by kernel_rfl) (by kernel_rfl) (p_bits (by decide) (by kernel_rfl) (by kernel_rfl) H) (fun x23 H => ?_)
        refine ls_assign (x := x23) (by kernel_rfl) (by kernel_rfl) ?_
        refine ls_nil ?_
        exact ⟨(fun i => ([x19, x23]).getD i undef), x23, h_1, by kernel_rfl, HA_1, H⟩
      · refine wp_skip ?_
        exact ⟨(fun i => ([undef, undef]).getD i undef), x19, h_1, by kernel_rfl, HA_1, H⟩
    · rintro _ w_4 ⟨D, x10, h_4, rfl, HA_4, H⟩
      unfold betonyref09_Receive_j1 at H
      refine then_normal ?_
      refine fr_eq (b := ⟨#[x0, x1, x2, x3, x4, undef, undef, undef, x8, (.bool false), x10, x11, x12, x13, x1, x15, undef, undef, x3, x19, x20, x21, (D 0), (D 1), undef, undef, undef, undef, undef, undef, undef, undef, undef, undef, undef, undef], []⟩) (by kernel_rfl) ?_
      refine wp_seq ?_
      refine lwp_list ?_
      refine ls_d (d := some 24) (by kernel_rfl) (by kernel_rfl) HA_4 (d_slit (zc := #[]) Try.underlying53 Try.sizeOf48 (by decide) (.inl ⟨(by kernel_rfl), (by kernel_rfl)⟩) (by kernel_rfl) (by kernel_rfl) H) (fun x24 h_5 w_5 H HA_5 => ?_)
      refine ls_p (d := some 25) (by kernel_rfl) (by kernel_rfl) (p_off Try.underlying55 rfl (fun w => ⟨_, Try.sizeOf53 w⟩) rfl (by kernel_rfl) H) (fun x25 H => ?_)
      refine ls_y (d := some 26) (by kernel_rfl) (by kernel_rfl) HA_5 (y_ld Try.isAgg53 (by kernel_rfl) H) (fun x26 H => ?_)
      refine ls_d (d := some 27) (by kernel_rfl) (by kernel_rfl) HA_5 (d_app (z := #[.int .u8 0, .int .i64 0]) Try.underlying53 Try.underlying53 (.inl ⟨_, rfl⟩) Try.typeInfo48 (by kernel_rfl) Try.sizeOf48 Try.zeroValue48 (by kernel_rfl) (by kernel_rfl) (by kernel_rfl) H) (fun x27 h_6 w_6 H HA_6 => ?_)
      refine ls_move (x := x2) (by kernel_rfl) (by kernel_rfl) ?_
      refine ls_move (x := x10) (by kernel_rfl) (by kernel_rfl) ?_
      refine ls_fr (b := ⟨#[x0, x1, x2, x3, x4, undef, undef, undef, x8, (.bool false), x10, x11, x12, x13, x1, x15, undef, undef, x3, x19, x20, x21, (D 0), (D 1), x24, x25, x26, x27, x2, x10, undef, undef, undef, undef, undef, undef], []⟩) (by kernel_rfl) ?_
      refine ls_p (d := some 30) (by kernel_rfl) (by kernel_rfl) (p_lit (pl := [(0, 1), (1, 1)]) Try.zeroValue48 Try.underlying48 ⟨(by kernel_rfl), Try.sizeOf5, (by kernel_rfl), Try.sizeOf3, trivial⟩ (by kernel_rfl) (by kernel_rfl) H) (fun x30 H => ?_)
      refine ls_d (d := some 31) (by kernel_rfl) (by kernel_rfl) HA_6 (d_slit (zc := #[.int .u8 0, .int .i64 0]) Try.underlying53 Try.sizeOf48 (by decide) (.inr ⟨by decide, _, Try.zeroValue48, (by kernel_rfl)⟩) (by kernel_rfl) (by kernel_rfl) H) (fun x31 h_7 w_7 H HA_7 => ?_)
      refine ls_d (d := some 32) (by kernel_rfl) (by kernel_rfl) HA_7 (d_app (z := #[.int .u8 0, .int .i64 0]) Try.underlying53 Try.underlying53 (.inl ⟨_, rfl⟩) Try.typeInfo48 (by kernel_rfl) Try.sizeOf48 Try.zeroValue48 (by kernel_rfl) (by kernel_rfl) (by kernel_rfl) H) (fun x32 h_8 w_8 H HA_8 => ?_)
      refine ls_p (d := some 33) (by kernel_rfl) (by kernel_rfl) (p_off Try.underlying55 rfl (fun w => ⟨_, Try.sizeOf53 w⟩) rfl (by kernel_rfl) H) (fun x33 H => ?_)
      refine ls_d (d := none) (by kernel_rfl) (by kernel_rfl) HA_8 (d_st Try.sizeOf53 (by kernel_rfl) (by kernel_rfl) H) (fun _ h_9 w_9 H HA_9 => ?_)
      refine ls_nil ?_
      refine then_normal ?_
      refine fr_eq (b := ⟨#[x0, x1, x2, x3, x4, undef, undef, undef, x8, (.bool false), x10, x11, x12, x13, x1, x15, undef, undef, x3, x19, x20, x21, (D 0), (D 1), x24, x25, x26, x27, x2, x10, x30, x31, x32, x33, undef, undef], []⟩) (by kernel_rfl) ?_
      refine wp_seq ?_
      refine lwp_list ?_
      refine ls_p (d := some 34) (by kernel_rfl) (by kernel_rfl) (p_off Try.underlying55 rfl (fun w => ⟨_, Try.sizeOf4 w⟩) rfl (by kernel_rfl) H) (fun x34 H => ?_)
      refine ls_d (d := none) (by kernel_rfl) (by kernel_rfl) HA_9 (d_st Try.sizeOf4 (by kernel_rfl) (by kernel_rfl) H) (fun _ h_10 w_10 H HA_10 => ?_)
      refine ls_nil ?_
      refine then_normal ?_
      refine fr_eq (b := ⟨#[x0, x1, x2, x3, x4, undef, undef, undef, x8, (.bool false), x10, x11, x12, x13, x1, x15, undef, undef, x3, x19, x20, x21, (D 0), (D 1), x24, x25, x26, x27, x2, x10, x30, x31, x32, x33, x34, undef], []⟩) (by kernel_rfl) ?_
      refine wp_seq ?_
      refine lwp_list ?_
      refine ls_y (d := some 35) (by kernel_rfl) (by kernel_rfl) HA_10 (y_ldn Try.isAgg55 Try.sizeOf55 (by kernel_rfl) H) (fun x35 H => ?_)
      refine ls_d (d := none) (by kernel_rfl) (by kernel_rfl) HA_10 (d_stn Try.sizeOf55 (by kernel_rfl) (by kernel_rfl) H) (fun _ h_11 w_11 H HA_11 => ?_)
      refine ls_assign (x := (.bool true)) (by kernel_rfl) (by kernel_rfl) ?_
      refine ls_nil ?_
      refine then_normal ?_
      refine fr_eq (b := ⟨#[x0, x1, x2, x3, x4, undef, undef, undef, x8, (.bool true), x10, x11, x12, x13, x1, x15, undef, undef, x3, x19, x20, x21, (D 0), (D 1), x24, x25, x26, x27, x2, x10, x30, x31, x32, x33, x34, x35], []⟩) (by kernel_rfl) ?_
      refine wp_ret ?_
      obtain ⟨r8_1, hr8_1, H⟩ := ld_n Try.isAgg55 Try.sizeOf55 H
      exact endR (vs := [r8_1, (.bool true)]) (Try.results32) (by kernel_rfl) ⟨⟨_, (by kernel_rfl), hr8_1⟩, (by kernel_rfl), trivial⟩ HA_11 H _ (.inr rfl)

end Go.Proofs.Ytecoejjpdogklaa
