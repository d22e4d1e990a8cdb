/- The shallow reading of one function, and that the function does it. Written by a program. -/
import Derived.Test.YtkagmlpnidijaaaFnC
set_option linter.unusedVariables false
namespace Go.Proofs.Ytkagmlpnidijaaa
open Go Go.HW

def pen_Look_S (x0 : Value) (h : Heap) (R : Value → Heap → Prop) : Prop :=
  sSub .i64 x0 (.int .i64 1) fun x9 =>
  pen_kind_c x0 h fun x12 h => 
  sEq x12 (.int .i64 2) fun x13 =>
  sIf x13 (sShr .i64 x0 (.int .u64 16) fun x15 =>
  sBits .and .i64 x15 (.int .i64 255) fun x16 =>
  sShr .i64 x0 (.int .u64 8) fun x18 =>
  sBits .and .i64 x18 (.int .i64 255) fun x19 =>
  sBits .and .i64 x0 (.int .i64 255) fun x21 =>
  R (.tuple #[x16, x19, x21, (.bool true)]) h) (pen_kind_c x0 h fun x24 h_1 => 
  sNe x24 (.int .i64 1) fun x25 =>
  sIf x25 (R (.tuple #[(.int .i64 0), (.int .i64 0), (.int .i64 0), (.bool false)]) h_1) (sLt x9 (.int .i64 16) fun x28 =>
  sIf x28 (pen_low_c x9 (.int .i64 1) h_1 fun x30 h_2 => 
  pen_low_c x9 (.int .i64 2) h_2 fun x32 h_3 => 
  pen_low_c x9 (.int .i64 4) h_3 fun x34 h_4 => 
  R (.tuple #[x30, x32, x34, (.bool true)]) h_4) (sLt x9 (.int .i64 232) fun x37 =>
  sIf x37 (sSub .i64 x9 (.int .i64 16) fun x39 =>
  sQuo .i64 x39 (.int .i64 36) fun x41 =>
  sMul .i64 x41 (.int .i64 51) fun x42 =>
  sQuo .i64 x39 (.int .i64 6) fun x44 =>
  sRem .i64 x44 (.int .i64 6) fun x45 =>
  sMul .i64 x45 (.int .i64 51) fun x46 =>
  sRem .i64 x39 (.int .i64 6) fun x48 =>
  sMul .i64 x48 (.int .i64 51) fun x49 =>
  R (.tuple #[x42, x46, x49, (.bool true)]) h_1) (sSub .i64 x9 (.int .i64 232) fun x51 =>
  sMul .i64 (.int .i64 10) x51 fun x52 =>
  sAdd .i64 (.int .i64 8) x52 fun x53 =>
  R (.tuple #[x53, x53, x53, (.bool true)]) h_1))))
set_option maxRecDepth 100000 in
theorem pen_Look_runs {x0 : Value} {h : Heap} {R : Value → Heap → Prop} (H : pen_Look_S x0 h R) : pen_Look_c x0 h R := by
  unfold pen_Look_S at H
  refine runs_of (b := ⟨#[x0, undef, undef, undef, undef, undef, undef, undef, undef, undef, undef, undef, undef, undef, undef, undef, undef, undef, undef, undef, undef, undef, undef, undef, undef, undef, undef, undef, undef, undef, undef, undef, undef, undef, undef, undef, undef, undef, undef, undef, undef, undef, undef, undef, undef, undef, undef, undef, undef, undef, undef, undef, undef, undef, undef, undef, undef], []⟩) Try.call41 Try.func41 rfl (by kernel_rfl) (fun w0 HA => ?_)
  refine wp_seq ?_
  refine lwp_list ?_
  refine ls_assign (x := (.int .i64 0)) (by kernel_rfl) (by kernel_rfl) ?_
  refine ls_assign (x := (.int .i64 0)) (by kernel_rfl) (by kernel_rfl) ?_
  refine ls_assign (x := (.int .i64 0)) (by kernel_rfl) (by kernel_rfl) ?_
  refine ls_assign (x := (.bool false)) (by kernel_rfl) (by kernel_rfl) ?_
  refine ls_nil ?_
  refine then_normal ?_
  refine fr_eq (b := ⟨#[x0, undef, (.int .i64 0), (.int .i64 0), (.int .i64 0), (.bool false), undef, undef, undef, undef, undef, undef, undef, undef, undef, undef, undef, undef, undef, undef, undef, undef, undef, undef, undef, undef, undef, undef, undef, undef, undef, undef, undef, undef, undef, undef, undef, undef, undef, undef, undef, undef, undef, undef, undef, undef, undef, undef, undef, undef, undef, undef, undef, undef, undef, undef, undef], []⟩) (by kernel_rfl) ?_
  refine wp_seq ?_
  refine lwp_list ?_
  refine ls_move (x := x0) (by kernel_rfl) (by kernel_rfl) ?_
  refine ls_p (d := some 9) (by kernel_rfl) (by kernel_rfl) (p_sub (by kernel_rfl) (by kernel_rfl) H) (fun x9 H => ?_)
  refine ls_assign (x := x9) (by kernel_rfl) (by kernel_rfl) ?_
  refine ls_nil ?_
  refine then_normal ?_
  refine fr_eq (b := ⟨#[x0, undef, (.int .i64 0), (.int .i64 0), (.int .i64 0), (.bool false), x9, undef, x0, x9, undef, undef, undef, undef, undef, undef, undef, undef, undef, undef, undef, undef, undef, undef, undef, undef, undef, undef, undef, undef, undef, undef, undef, undef, undef, undef, undef, undef, undef, undef, undef, undef, undef, undef, undef, undef, undef, undef, undef, undef, undef, undef, undef, undef, undef, undef, undef], []⟩) (by kernel_rfl) ?_
  refine wp_seq ?_
  refine wp_block ?_
  refine wp_seq ?_
  refine lwp_list ?_
  refine ls_move (x := x0) (by kernel_rfl) (by kernel_rfl) ?_
  refine ls_d (d := some 12) (by kernel_rfl) (by kernel_rfl) HA (d_call (by kernel_rfl) (by kernel_rfl) H) (fun x12 h w H HA => ?_)
  refine ls_p (d := some 13) (by kernel_rfl) (by kernel_rfl) (p_sEq (by kernel_rfl) (by kernel_rfl) H) (fun x13 H => ?_)
  refine ls_assign (x := x13) (by kernel_rfl) (by kernel_rfl) ?_
  refine ls_nil ?_
  refine then_normal ?_
  refine fr_eq (b := ⟨#[x0, undef, (.int .i64 0), (.int .i64 0), (.int .i64 0), (.bool false), x9, undef, x0, x9, x13, x0, x12, x13, undef, undef, undef, undef, undef, undef, undef, undef, undef, undef, undef, undef, undef, undef, undef, undef, undef, undef, undef, undef, undef, undef, undef, undef, undef, undef, undef, undef, undef, undef, undef, undef, undef, undef, undef, undef, undef, undef, undef, undef, undef, undef, undef], []⟩) (by kernel_rfl) ?_
  refine wp_if rfl H (fun H => ?_) (fun H => ?_)
  · refine wp_seq ?_
    refine lwp_list ?_
    refine ls_move (x := x0) (by kernel_rfl) (by kernel_rfl) ?_
    refine ls_p (d := some 15) (by kernel_rfl) (by kernel_rfl) (p_shr (by kernel_rfl) (by kernel_rfl) H) (fun x15 H => ?_)
    refine ls_p (d := some 16) (by kernel_rfl) (by kernel_rfl) (p_bits (by decide) (by kernel_rfl) (by kernel_rfl) H) (fun x16 H => ?_)
    refine ls_move (x := x0) (by kernel_rfl) (by kernel_rfl) ?_
    refine ls_p (d := some 18) (by kernel_rfl) (by kernel_rfl) (p_shr (by kernel_rfl) (by kernel_rfl) H) (fun x18 H => ?_)
    refine ls_p (d := some 19) (by kernel_rfl) (by kernel_rfl) (p_bits (by decide) (by kernel_rfl) (by kernel_rfl) H) (fun x19 H => ?_)
    refine ls_fr (b := ⟨#[x0, undef, (.int .i64 0), (.int .i64 0), (.int .i64 0), (.bool false), x9, undef, x0, x9, x13, x0, x12, x13, x0, x15, x16, x0, x18, x19, undef, undef, undef, undef, undef, undef, undef, undef, undef, undef, undef, undef, undef, undef, undef, undef, undef, undef, undef, undef, undef, undef, undef, undef, undef, undef, undef, undef, undef, undef, undef, undef, undef, undef, undef, undef, undef], []⟩) (by kernel_rfl) ?_
    refine ls_move (x := x0) (by kernel_rfl) (by kernel_rfl) ?_
    refine ls_p (d := some 21) (by kernel_rfl) (by kernel_rfl) (p_bits (by decide) (by kernel_rfl) (by kernel_rfl) H) (fun x21 H => ?_)
    refine ls_assign (x := x16) (by kernel_rfl) (by kernel_rfl) ?_
    refine ls_assign (x := x19) (by kernel_rfl) (by kernel_rfl) ?_
    refine ls_assign (x := x21) (by kernel_rfl) (by kernel_rfl) ?_
    refine ls_assign (x := (.bool true)) (by kernel_rfl) (by kernel_rfl) ?_
    refine ls_nil ?_
    refine then_normal ?_
    refine fr_eq (b := ⟨#[x0, undef, x16, x19, x21, (.bool true), x9, undef, x0, x9, x13, x0, x12, x13, x0, x15, x16, x0, x18, x19, x0, x21, undef, undef, undef, undef, undef, undef, undef, undef, undef, undef, undef, undef, undef, undef, undef, undef, undef, undef, undef, undef, undef, undef, undef, undef, undef, undef, undef, undef, undef, undef, undef, undef, undef, undef, undef], []⟩) (by kernel_rfl) ?_
    refine wp_ret ?_
    refine block_ret ?_
    refine then_ret ?_
    exact end4 (Try.results41) (by kernel_rfl) (by kernel_rfl) (by kernel_rfl) (by kernel_rfl) (by kernel_rfl) HA H _ (.inr rfl)
  · refine wp_seq ?_
    refine lwp_list ?_
    refine ls_move (x := x0) (by kernel_rfl) (by kernel_rfl) ?_
    refine ls_d (d := some 24) (by kernel_rfl) (by kernel_rfl) HA (d_call (by kernel_rfl) (by kernel_rfl) H) (fun x24 h_1 w_1 H HA_1 => ?_)
    refine ls_p (d := some 25) (by kernel_rfl) (by kernel_rfl) (p_sNe (by kernel_rfl) (by kernel_rfl) H) (fun x25 H => ?_)
    refine ls_assign (x := x25) (by kernel_rfl) (by kernel_rfl) ?_
    refine ls_nil ?_
    refine then_normal ?_
    refine fr_eq (b := ⟨#[x0, undef, (.int .i64 0), (.int .i64 0), (.int .i64 0), (.bool false), x9, undef, x0, x9, x13, x0, x12, x13, undef, undef, undef, undef, undef, undef, undef, undef, x25, x0, x24, x25, undef, undef, undef, undef, undef, undef, undef, undef, undef, undef, undef, undef, undef, undef, undef, undef, undef, undef, undef, undef, undef, undef, undef, undef, undef, undef, undef, undef, undef, undef, undef], []⟩) (by kernel_rfl) ?_
    refine wp_if rfl H (fun H => ?_) (fun H => ?_)
    · refine wp_seq ?_
      refine lwp_list ?_
      refine ls_assign (x := (.int .i64 0)) (by kernel_rfl) (by kernel_rfl) ?_
      refine ls_assign (x := (.int .i64 0)) (by kernel_rfl) (by kernel_rfl) ?_
      refine ls_assign (x := (.int .i64 0)) (by kernel_rfl) (by kernel_rfl) ?_
      refine ls_assign (x := (.bool false)) (by kernel_rfl) (by kernel_rfl) ?_
      refine ls_nil ?_
      refine then_normal ?_
      refine fr_eq (b := ⟨#[x0, undef, (.int .i64 0), (.int .i64 0), (.int .i64 0), (.bool false), x9, undef, x0, x9, x13, x0, x12, x13, undef, undef, undef, undef, undef, undef, undef, undef, x25, x0, x24, x25, undef, undef, undef, undef, undef, undef, undef, undef, undef, undef, undef, undef, undef, undef, undef, undef, undef, undef, undef, undef, undef, undef, undef, undef, undef, undef, undef, undef, undef, undef, undef], []⟩) (by kernel_rfl) ?_
      refine wp_ret ?_
      refine block_ret ?_
      refine then_ret ?_
      exact end4 (Try.results41) (by kernel_rfl) (by kernel_rfl) (by kernel_rfl) (by kernel_rfl) (by kernel_rfl) HA_1 H _ (.inr rfl)
    · refine wp_seq ?_
      refine lwp_list ?_
      refine ls_move (x := x9) (by kernel_rfl) (by kernel_rfl) ?_
      refine ls_p (d := some 28) (by kernel_rfl) (by kernel_rfl) (p_sLt (by kernel_rfl) (by kernel_rfl) H) (fun x28 H => ?_)
      refine ls_assign (x := x28) (by kernel_rfl) (by kernel_rfl) ?_
      refine ls_nil ?_
      refine then_normal ?_
      refine fr_eq (b := ⟨#[x0, undef, (.int .i64 0), (.int .i64 0), (.int .i64 0), (.bool false), x9, undef, x0, x9, x13, x0, x12, x13, undef, undef, undef, undef, undef, undef, undef, undef, x25, x0, x24, x25, x28, x9, x28, undef, undef, undef, undef, undef, undef, undef, undef, undef, undef, undef, undef, undef, undef, undef, undef, undef, undef, undef, undef, undef, undef, undef, undef, undef, undef, undef, undef], []⟩) (by kernel_rfl) ?_
      refine wp_if rfl H (fun H => ?_) (fun H => ?_)
      · refine wp_seq ?_
        refine lwp_list ?_
        refine ls_move (x := x9) (by kernel_rfl) (by kernel_rfl) ?_
        refine ls_d (d := some 30) (by kernel_rfl) (by kernel_rfl) HA_1 (d_call (by kernel_rfl) (by kernel_rfl) H) (fun x30 h_2 w_2 H HA_2 => ?_)
        refine ls_move (x := x9) (by kernel_rfl) (by kernel_rfl) ?_
        refine ls_d (d := some 32) (by kernel_rfl) (by kernel_rfl) HA_2 (d_call (by kernel_rfl) (by kernel_rfl) H) (fun x32 h_3 w_3 H HA_3 => ?_)
        refine ls_move (x := x9) (by kernel_rfl) (by kernel_rfl) ?_
        refine ls_d (d := some 34) (by kernel_rfl) (by kernel_rfl) HA_3 (d_call (by kernel_rfl) (by kernel_rfl) H) (fun x34 h_4 w_4 H HA_4 => ?_)
        refine ls_fr (b := ⟨#[x0, undef, (.int .i64 0), (.int .i64 0), (.int .i64 0), (.bool false), x9, undef, x0, x9, x13, x0, x12, x13, undef, undef, undef, undef, undef, undef, undef, undef, x25, x0, x24, x25, x28, x9, x28, x9, x30, x9, x32, x9, x34, undef, undef, undef, undef, undef, undef, undef, undef, undef, undef, undef, undef, undef, undef, undef, undef, undef, undef, undef, undef, undef, undef], []⟩) (by kernel_rfl) ?_
        refine ls_assign (x := x30) (by kernel_rfl) (by kernel_rfl) ?_
        refine ls_assign (x := x32) (by kernel_rfl) (by kernel_rfl) ?_
        refine ls_assign (x := x34) (by kernel_rfl) (by kernel_rfl) ?_
        refine ls_assign (x := (.bool true)) (by kernel_rfl) (by kernel_rfl) ?_
        refine ls_nil ?_
        refine then_normal ?_
        refine fr_eq (b := ⟨#[x0, undef, x30, x32, x34, (.bool true), x9, undef, x0, x9, x13, x0, x12, x13, undef, undef, undef, undef, undef, undef, undef, undef, x25, x0, x24, x25, x28, x9, x28, x9, x30, x9, x32, x9, x34, undef, undef, undef, undef, undef, undef, undef, undef, undef, undef, undef, undef, undef, undef, undef, undef, undef, undef, undef, undef, undef, undef], []⟩) (by kernel_rfl) ?_
        refine wp_ret ?_
        refine block_ret ?_
        refine then_ret ?_
        exact end4 (Try.results41) (by kernel_rfl) (by kernel_rfl) (by kernel_rfl) (by kernel_rfl) (by kernel_rfl) HA_4 H _ (.inr rfl)
      · refine wp_seq ?_
        refine lwp_list ?_
        refine ls_move (x := x9) (by kernel_rfl) (by kernel_rfl) ?_
        refine ls_p (d := some 37) (by kernel_rfl) (by kernel_rfl) (p_sLt (by kernel_rfl) (by kernel_rfl) H) (fun x37 H => ?_)
        refine ls_assign (x := x37) (by kernel_rfl) (by kernel_rfl) ?_
        refine ls_nil ?_
        refine then_normal ?_
        refine fr_eq (b := ⟨#[x0, undef, (.int .i64 0), (.int .i64 0), (.int .i64 0), (.bool false), x9, undef, x0, x9, x13, x0, x12, x13, undef, undef, undef, undef, undef, undef, undef, undef, x25, x0, x24, x25, x28, x9, x28, undef, undef, undef, undef, undef, undef, x37, x9, x37, undef, undef, undef, undef, undef, undef, undef, undef, undef, undef, undef, undef, undef, undef, undef, undef, undef, undef, undef], []⟩) (by kernel_rfl) ?_
        refine wp_if rfl H (fun H => ?_) (fun H => ?_)
        · refine wp_seq ?_
          refine lwp_list ?_
          refine ls_move (x := x9) (by kernel_rfl) (by kernel_rfl) ?_
          refine ls_p (d := some 39) (by kernel_rfl) (by kernel_rfl) (p_sub (by kernel_rfl) (by kernel_rfl) H) (fun x39 H => ?_)
          refine ls_assign (x := x39) (by kernel_rfl) (by kernel_rfl) ?_
          refine ls_nil ?_
          refine then_normal ?_
          refine fr_eq (b := ⟨#[x0, undef, (.int .i64 0), (.int .i64 0), (.int .i64 0), (.bool false), x39, undef, x0, x9, x13, x0, x12, x13, undef, undef, undef, undef, undef, undef, undef, undef, x25, x0, x24, x25, x28, x9, x28, undef, undef, undef, undef, undef, undef, x37, x9, x37, x9, x39, undef, undef, undef, undef, undef, undef, undef, undef, undef, undef, undef, undef, undef, undef, undef, undef, undef], []⟩) (by kernel_rfl) ?_
          refine wp_seq ?_
          refine lwp_list ?_
          refine ls_move (x := x39) (by kernel_rfl) (by kernel_rfl) ?_
          refine ls_p (d := some 41) (by kernel_rfl) (by kernel_rfl) (p_quo (by kernel_rfl) (by kernel_rfl) H) (fun x41 H => ?_)
          refine ls_p (d := some 42) (by kernel_rfl) (by kernel_rfl) (p_mul (by kernel_rfl) (by kernel_rfl) H) (fun x42 H => ?_)
          refine ls_move (x := x39) (by kernel_rfl) (by kernel_rfl) ?_
          refine ls_p (d := some 44) (by kernel_rfl) (by kernel_rfl) (p_quo (by kernel_rfl) (by kernel_rfl) H) (fun x44 H => ?_)
          refine ls_p (d := some 45) (by kernel_rfl) (by kernel_rfl) (p_rem (by kernel_rfl) (by kernel_rfl) H) (fun x45 H => ?_)
          refine ls_fr (b := ⟨#[x0, undef, (.int .i64 0), (.int .i64 0), (.int .i64 0), (.bool false), x39, undef, x0, x9, x13, x0, x12, x13, undef, undef, undef, undef, undef, undef, undef, undef, x25, x0, x24, x25, x28, x9, x28, undef, undef, undef, undef, undef, undef, x37, x9, x37, x9, x39, x39, x41, x42, x39, x44, x45, undef, undef, undef, undef, undef, undef, undef, undef, undef, undef, undef], []⟩) (by kernel_rfl) ?_
          refine ls_p (d := some 46) (by kernel_rfl) (by kernel_rfl) (p_mul (by kernel_rfl) (by kernel_rfl) H) (fun x46 H => ?_)
          refine ls_move (x := x39) (by kernel_rfl) (by kernel_rfl) ?_
          refine ls_p (d := some 48) (by kernel_rfl) (by kernel_rfl) (p_rem (by kernel_rfl) (by kernel_rfl) H) (fun x48 H => ?_)
          refine ls_p (d := some 49) (by kernel_rfl) (by kernel_rfl) (p_mul (by kernel_rfl) (by kernel_rfl) H) (fun x49 H => ?_)
          refine ls_assign (x := x42) (by kernel_rfl) (by kernel_rfl) ?_
          refine ls_assign (x := x46) (by kernel_rfl) (by kernel_rfl) ?_
          refine ls_fr (b := ⟨#[x0, undef, x42, x46, (.int .i64 0), (.bool false), x39, undef, x0, x9, x13, x0, x12, x13, undef, undef, undef, undef, undef, undef, undef, undef, x25, x0, x24, x25, x28, x9, x28, undef, undef, undef, undef, undef, undef, x37, x9, x37, x9, x39, x39, x41, x42, x39, x44, x45, x46, x39, x48, x49, undef, undef, undef, undef, undef, undef, undef], []⟩) (by kernel_rfl) ?_
          refine ls_assign (x := x49) (by kernel_rfl) (by kernel_rfl) ?_
          refine ls_assign (x := (.bool true)) (by kernel_rfl) (by kernel_rfl) ?_
          refine ls_nil ?_
          refine then_normal ?_
          refine fr_eq (b := ⟨#[x0, undef, x42, x46, x49, (.bool true), x39, undef, x0, x9, x13, x0, x12, x13, undef, undef, undef, undef, undef, undef, undef, undef, x25, x0, x24, x25, x28, x9, x28, undef, undef, undef, undef, undef, undef, x37, x9, x37, x9, x39, x39, x41, x42, x39, x44, x45, x46, x39, x48, x49, undef, undef, undef, undef, undef, undef, undef], []⟩) (by kernel_rfl) ?_
          refine wp_ret ?_
          refine block_ret ?_
          refine then_ret ?_
          exact end4 (Try.results41) (by kernel_rfl) (by kernel_rfl) (by kernel_rfl) (by kernel_rfl) (by kernel_rfl) HA_1 H _ (.inr rfl)
        · refine wp_skip ?_
          refine block_normal ?_
          refine then_normal ?_
          refine fr_eq (b := ⟨#[x0, undef, (.int .i64 0), (.int .i64 0), (.int .i64 0), (.bool false), x9, undef, x0, x9, x13, x0, x12, x13, undef, undef, undef, undef, undef, undef, undef, undef, x25, x0, x24, x25, x28, x9, x28, undef, undef, undef, undef, undef, undef, x37, x9, x37, undef, undef, undef, undef, undef, undef, undef, undef, undef, undef, undef, undef, undef, undef, undef, undef, undef, undef, undef], []⟩) (by kernel_rfl) ?_
          refine wp_seq ?_
          refine lwp_list ?_
          refine ls_move (x := x9) (by kernel_rfl) (by kernel_rfl) ?_
          refine ls_p (d := some 51) (by kernel_rfl) (by kernel_rfl) (p_sub (by kernel_rfl) (by kernel_rfl) H) (fun x51 H => ?_)
          refine ls_p (d := some 52) (by kernel_rfl) (by kernel_rfl) (p_mul (by kernel_rfl) (by kernel_rfl) H) (fun x52 H => ?_)
          refine ls_p (d := some 53) (by kernel_rfl) (by kernel_rfl) (p_add (by kernel_rfl) (by kernel_rfl) H) (fun x53 H => ?_)
          refine ls_assign (x := x53) (by kernel_rfl) (by kernel_rfl) ?_
          refine ls_nil ?_
          refine then_normal ?_
          refine fr_eq (b := ⟨#[x0, undef, (.int .i64 0), (.int .i64 0), (.int .i64 0), (.bool false), x9, x53, x0, x9, x13, x0, x12, x13, undef, undef, undef, undef, undef, undef, undef, undef, x25, x0, x24, x25, x28, x9, x28, undef, undef, undef, undef, undef, undef, x37, x9, x37, undef, undef, undef, undef, undef, undef, undef, undef, undef, undef, undef, undef, x9, x51, x52, x53, undef, undef, undef], []⟩) (by kernel_rfl) ?_
          refine wp_seq ?_
          refine lwp_list ?_
          refine ls_move (x := x53) (by kernel_rfl) (by kernel_rfl) ?_
          refine ls_move (x := x53) (by kernel_rfl) (by kernel_rfl) ?_
          refine ls_move (x := x53) (by kernel_rfl) (by kernel_rfl) ?_
          refine ls_assign (x := x53) (by kernel_rfl) (by kernel_rfl) ?_
          refine ls_assign (x := x53) (by kernel_rfl) (by kernel_rfl) ?_
          refine ls_assign (x := x53) (by kernel_rfl) (by kernel_rfl) ?_
          refine ls_fr (b := ⟨#[x0, undef, x53, x53, x53, (.bool false), x9, x53, x0, x9, x13, x0, x12, x13, undef, undef, undef, undef, undef, undef, undef, undef, x25, x0, x24, x25, x28, x9, x28, undef, undef, undef, undef, undef, undef, x37, x9, x37, undef, undef, undef, undef, undef, undef, undef, undef, undef, undef, undef, undef, x9, x51, x52, x53, x53, x53, x53], []⟩) (by kernel_rfl) ?_
          refine ls_assign (x := (.bool true)) (by kernel_rfl) (by kernel_rfl) ?_
          refine ls_nil ?_
          refine then_normal ?_
          refine fr_eq (b := ⟨#[x0, undef, x53, x53, x53, (.bool true), x9, x53, x0, x9, x13, x0, x12, x13, undef, undef, undef, undef, undef, undef, undef, undef, x25, x0, x24, x25, x28, x9, x28, undef, undef, undef, undef, undef, undef, x37, x9, x37, undef, undef, undef, undef, undef, undef, undef, undef, undef, undef, undef, undef, x9, x51, x52, x53, x53, x53, x53], []⟩) (by kernel_rfl) ?_
          refine wp_ret ?_
          exact end4 (Try.results41) (by kernel_rfl) (by kernel_rfl) (by kernel_rfl) (by kernel_rfl) (by kernel_rfl) HA_1 H _ (.inr rfl)

end Go.Proofs.Ytkagmlpnidijaaa
