/- The shallow reading of one function, and that the function does it. Written by a program. -/
import Derived.Test.YtjlpgakoedigoaaDoorFnC
set_option linter.unusedVariables false
namespace Go.Proofs.YtjlpgakoedigoaaDoor
open Go Go.HW

def betonyref02_Form_S (x0 : Value) (h : Heap) (R : Value → Heap → Prop) : Prop :=
  sLt x0 (.int .i64 2048) fun x4 =>
  sIf x4 (sQuo .i64 x0 (.int .i64 64) fun x6 =>
  sAdd .i64 (.int .i64 192) x6 fun x7 =>
  sConv .u8 x7 fun x8 =>
  sRem .i64 x0 (.int .i64 64) fun x10 =>
  sAdd .i64 (.int .i64 128) x10 fun x11 =>
  sConv .u8 x11 fun x12 =>
  sSlit h #[.int .u8 0, .int .u8 0] [(0, 1, x8), (1, 1, x12)] 5 2 fun x13 h => 
  R x13 h) (sLt x0 (.int .i64 65536) fun x15 =>
  sIf x15 (sQuo .i64 x0 (.int .i64 4096) fun x17 =>
  sAdd .i64 (.int .i64 224) x17 fun x18 =>
  sConv .u8 x18 fun x19 =>
  sQuo .i64 x0 (.int .i64 64) fun x21 =>
  sRem .i64 x21 (.int .i64 64) fun x22 =>
  sAdd .i64 (.int .i64 128) x22 fun x23 =>
  sConv .u8 x23 fun x24 =>
  sRem .i64 x0 (.int .i64 64) fun x26 =>
  sAdd .i64 (.int .i64 128) x26 fun x27 =>
  sConv .u8 x27 fun x28 =>
  sSlit h #[.int .u8 0, .int .u8 0, .int .u8 0] [(0, 1, x19), (1, 1, x24), (2, 1, x28)] 5 3 fun x29 h_1 => 
  R x29 h_1) (sQuo .i64 x0 (.int .i64 262144) fun x31 =>
  sAdd .i64 (.int .i64 240) x31 fun x32 =>
  sConv .u8 x32 fun x33 =>
  sQuo .i64 x0 (.int .i64 4096) fun x35 =>
  sRem .i64 x35 (.int .i64 64) fun x36 =>
  sAdd .i64 (.int .i64 128) x36 fun x37 =>
  sConv .u8 x37 fun x38 =>
  sQuo .i64 x0 (.int .i64 64) fun x40 =>
  sRem .i64 x40 (.int .i64 64) fun x41 =>
  sAdd .i64 (.int .i64 128) x41 fun x42 =>
  sConv .u8 x42 fun x43 =>
  sRem .i64 x0 (.int .i64 64) fun x45 =>
  sAdd .i64 (.int .i64 128) x45 fun x46 =>
  sConv .u8 x46 fun x47 =>
  sSlit h #[.int .u8 0, .int .u8 0, .int .u8 0, .int .u8 0] [(0, 1, x33), (1, 1, x38), (2, 1, x43), (3, 1, x47)] 5 4 fun x48 h_2 => 
  R x48 h_2))
set_option maxRecDepth 100000 in
theorem betonyref02_Form_runs {x0 : Value} {h : Heap} {R : Value → Heap → Prop} (H : betonyref02_Form_S x0 h R) : betonyref02_Form_c x0 h R := by
  unfold betonyref02_Form_S at H
  refine runs_of (b := ⟨#[x0, undef, undef, undef, undef, undef, undef, undef, undef, undef, undef, undef, undef, undef, undef, undef, undef, undef, undef, undef, undef, undef, undef, undef, undef, undef, undef, undef, undef, undef, undef, undef, undef, undef, undef, undef, undef, undef, undef, undef, undef, undef, undef, undef, undef, undef, undef, undef, undef], []⟩) Tryd.call31 Tryd.func31 rfl (by kernel_rfl) (fun w0 HA => ?_)
  refine wp_seq ?_
  refine lwp_list ?_
  refine ls_assign (x := (.slice none 0 0)) (by kernel_rfl) (by kernel_rfl) ?_
  refine ls_nil ?_
  refine then_normal ?_
  refine fr_eq (b := ⟨#[x0, undef, (.slice none 0 0), undef, undef, undef, undef, undef, undef, undef, undef, undef, undef, undef, undef, undef, undef, undef, undef, undef, undef, undef, undef, undef, undef, undef, undef, undef, undef, undef, undef, undef, undef, undef, undef, undef, undef, undef, undef, undef, undef, undef, undef, undef, undef, undef, undef, undef, undef], []⟩) (by kernel_rfl) ?_
  refine wp_seq ?_
  refine wp_seq ?_
  refine lwp_list ?_
  refine ls_move (x := x0) (by kernel_rfl) (by kernel_rfl) ?_
  refine ls_p (d := some 4) (by kernel_rfl) (by kernel_rfl) (p_sLt (by kernel_rfl) (by kernel_rfl) H) (fun x4 H => ?_)
  refine ls_nil ?_
  refine then_normal ?_
  refine fr_eq (b := ⟨#[x0, undef, (.slice none 0 0), x0, x4, undef, undef, undef, undef, undef, undef, undef, undef, undef, undef, undef, undef, undef, undef, undef, undef, undef, undef, undef, undef, undef, undef, undef, undef, undef, undef, undef, undef, undef, undef, undef, undef, undef, undef, undef, undef, undef, undef, undef, undef, undef, undef, undef, undef], []⟩) (by kernel_rfl) ?_
  refine wp_if rfl H (fun H => ?_) (fun H => ?_)
  · refine wp_seq ?_
    refine lwp_list ?_
    refine ls_move (x := x0) (by kernel_rfl) (by kernel_rfl) ?_
    refine ls_p (d := some 6) (by kernel_rfl) (by kernel_rfl) (p_quo (by kernel_rfl) (by kernel_rfl) H) (fun x6 H => ?_)
    refine ls_p (d := some 7) (by kernel_rfl) (by kernel_rfl) (p_add (by kernel_rfl) (by kernel_rfl) H) (fun x7 H => ?_)
    refine ls_p (d := some 8) (by kernel_rfl) (by kernel_rfl) (p_conv Tryd.underlying3 Tryd.underlying5 (by kernel_rfl) H) (fun x8 H => ?_)
    refine ls_move (x := x0) (by kernel_rfl) (by kernel_rfl) ?_
    refine ls_p (d := some 10) (by kernel_rfl) (by kernel_rfl) (p_rem (by kernel_rfl) (by kernel_rfl) H) (fun x10 H => ?_)
    refine ls_fr (b := ⟨#[x0, undef, (.slice none 0 0), x0, x4, x0, x6, x7, x8, x0, x10, undef, undef, undef, undef, undef, undef, undef, undef, undef, undef, undef, undef, undef, undef, undef, undef, undef, undef, undef, undef, undef, undef, undef, undef, undef, undef, undef, undef, undef, undef, undef, undef, undef, undef, undef, undef, undef, undef], []⟩) (by kernel_rfl) ?_
    refine ls_p (d := some 11) (by kernel_rfl) (by kernel_rfl) (p_add (by kernel_rfl) (by kernel_rfl) H) (fun x11 H => ?_)
    refine ls_p (d := some 12) (by kernel_rfl) (by kernel_rfl) (p_conv Tryd.underlying3 Tryd.underlying5 (by kernel_rfl) H) (fun x12 H => ?_)
    refine ls_d (d := some 13) (by kernel_rfl) (by kernel_rfl) HA (d_slit (zc := #[.int .u8 0]) Tryd.underlying43 Tryd.sizeOf5 (by decide) (.inr ⟨by decide, _, Tryd.zeroValue5, (by kernel_rfl)⟩) (by kernel_rfl) (by kernel_rfl) H) (fun x13 h w H HA => ?_)
    refine ls_assign (x := x13) (by kernel_rfl) (by kernel_rfl) ?_
    refine ls_nil ?_
    refine then_normal ?_
    refine fr_eq (b := ⟨#[x0, undef, x13, x0, x4, x0, x6, x7, x8, x0, x10, x11, x12, x13, undef, undef, undef, undef, undef, undef, undef, undef, undef, undef, undef, undef, undef, undef, undef, undef, undef, undef, undef, undef, undef, undef, undef, undef, undef, undef, undef, undef, undef, undef, undef, undef, undef, undef, undef], []⟩) (by kernel_rfl) ?_
    refine wp_ret ?_
    refine then_ret ?_
    exact end1 (Tryd.results31) (by kernel_rfl) (by kernel_rfl) HA H _ (.inr rfl)
  · refine wp_skip ?_
    refine then_normal ?_
    refine fr_eq (b := ⟨#[x0, undef, (.slice none 0 0), x0, x4, undef, undef, undef, undef, undef, undef, undef, undef, undef, undef, undef, undef, undef, undef, undef, undef, undef, undef, undef, undef, undef, undef, undef, undef, undef, undef, undef, undef, undef, undef, undef, undef, undef, undef, undef, undef, undef, undef, undef, undef, undef, undef, undef, undef], []⟩) (by kernel_rfl) ?_
    refine wp_seq ?_
    refine wp_seq ?_
    refine lwp_list ?_
    refine ls_move (x := x0) (by kernel_rfl) (by kernel_rfl) ?_
    refine ls_p (d := some 15) (by kernel_rfl) (by kernel_rfl) (p_sLt (by kernel_rfl) (by kernel_rfl) H) (fun x15 H => ?_)
    refine ls_nil ?_
    refine then_normal ?_
    refine fr_eq (b := ⟨#[x0, undef, (.slice none 0 0), x0, x4, undef, undef, undef, undef, undef, undef, undef, undef, undef, x0, x15, undef, undef, undef, undef, undef, undef, undef, undef, undef, undef, undef, undef, undef, undef, undef, undef, undef, undef, undef, undef, undef, undef, undef, undef, undef, undef, undef, undef, undef, undef, undef, undef, undef], []⟩) (by kernel_rfl) ?_
    refine wp_if rfl H (fun H => ?_) (fun H => ?_)
    · refine wp_seq ?_
      refine lwp_list ?_
      refine ls_move (x := x0) (by kernel_rfl) (by kernel_rfl) ?_
      refine ls_p (d := some 17) (by kernel_rfl) (by kernel_rfl) (p_quo (by kernel_rfl) (by kernel_rfl) H) (fun x17 H => ?_)
      refine ls_p (d := some 18) (by kernel_rfl) (by kernel_rfl) (p_add (by kernel_rfl) (by kernel_rfl) H) (fun x18 H => ?_)
      refine ls_p (d := some 19) (by kernel_rfl) (by kernel_rfl) (p_conv Tryd.underlying3 Tryd.underlying5 (by kernel_rfl) H) (fun x19 H => ?_)
      refine ls_move (x := x0) (by kernel_rfl) (by kernel_rfl) ?_
      refine ls_p (d := some 21) (by kernel_rfl) (by kernel_rfl) (p_quo (by kernel_rfl) (by kernel_rfl) H) (fun x21 H => ?_)
      refine ls_fr (b := ⟨#[x0, undef, (.slice none 0 0), x0, x4, undef, undef, undef, undef, undef, undef, undef, undef, undef, x0, x15, x0, x17, x18, x19, x0, x21, undef, undef, undef, undef, undef, undef, undef, undef, undef, undef, undef, undef, undef, undef, undef, undef, undef, undef, undef, undef, undef, undef, undef, undef, undef, undef, undef], []⟩) (by kernel_rfl) ?_
      refine ls_p (d := some 22) (by kernel_rfl) (by kernel_rfl) (p_rem (by kernel_rfl) (by kernel_rfl) H) (fun x22 H => ?_)
      refine ls_p (d := some 23) (by kernel_rfl) (by kernel_rfl) (p_add (by kernel_rfl) (by kernel_rfl) H) (fun x23 H => ?_)
      refine ls_p (d := some 24) (by kernel_rfl) (by kernel_rfl) (p_conv Tryd.underlying3 Tryd.underlying5 (by kernel_rfl) H) (fun x24 H => ?_)
      refine ls_move (x := x0) (by kernel_rfl) (by kernel_rfl) ?_
      refine ls_p (d := some 26) (by kernel_rfl) (by kernel_rfl) (p_rem (by kernel_rfl) (by kernel_rfl) H) (fun x26 H => ?_)
      refine ls_p (d := some 27) (by kernel_rfl) (by kernel_rfl) (p_add (by kernel_rfl) (by kernel_rfl) H) (fun x27 H => ?_)
      refine ls_fr (b := ⟨#[x0, undef, (.slice none 0 0), x0, x4, undef, undef, undef, undef, undef, undef, undef, undef, undef, x0, x15, x0, x17, x18, x19, x0, x21, x22, x23, x24, x0, x26, x27, undef, undef, undef, undef, undef, undef, undef, undef, undef, undef, undef, undef, undef, undef, undef, undef, undef, undef, undef, undef, undef], []⟩) (by kernel_rfl) ?_
      refine ls_p (d := some 28) (by kernel_rfl) (by kernel_rfl) (p_conv Tryd.underlying3 Tryd.underlying5 (by kernel_rfl) H) (fun x28 H => ?_)
      refine ls_d (d := some 29) (by kernel_rfl) (by kernel_rfl) HA (d_slit (zc := #[.int .u8 0]) Tryd.underlying43 Tryd.sizeOf5 (by decide) (.inr ⟨by decide, _, Tryd.zeroValue5, (by kernel_rfl)⟩) (by kernel_rfl) (by kernel_rfl) H) (fun x29 h_1 w_1 H HA_1 => ?_)
      refine ls_assign (x := x29) (by kernel_rfl) (by kernel_rfl) ?_
      refine ls_nil ?_
      refine then_normal ?_
      refine fr_eq (b := ⟨#[x0, undef, x29, x0, x4, undef, undef, undef, undef, undef, undef, undef, undef, undef, x0, x15, x0, x17, x18, x19, x0, x21, x22, x23, x24, x0, x26, x27, x28, x29, undef, undef, undef, undef, undef, undef, undef, undef, undef, undef, undef, undef, undef, undef, undef, undef, undef, undef, undef], []⟩) (by kernel_rfl) ?_
      refine wp_ret ?_
      refine then_ret ?_
      exact end1 (Tryd.results31) (by kernel_rfl) (by kernel_rfl) HA_1 H _ (.inr rfl)
    · refine wp_skip ?_
      refine then_normal ?_
      refine fr_eq (b := ⟨#[x0, undef, (.slice none 0 0), x0, x4, undef, undef, undef, undef, undef, undef, undef, undef, undef, x0, x15, undef, undef, undef, undef, undef, undef, undef, undef, undef, undef, undef, undef, undef, undef, undef, undef, undef, undef, undef, undef, undef, undef, undef, undef, undef, undef, undef, undef, undef, undef, undef, undef, undef], []⟩) (by kernel_rfl) ?_
      refine wp_seq ?_
      refine lwp_list ?_
      refine ls_move (x := x0) (by kernel_rfl) (by kernel_rfl) ?_
      refine ls_p (d := some 31) (by kernel_rfl) (by kernel_rfl) (p_quo (by kernel_rfl) (by kernel_rfl) H) (fun x31 H => ?_)
      refine ls_p (d := some 32) (by kernel_rfl) (by kernel_rfl) (p_add (by kernel_rfl) (by kernel_rfl) H) (fun x32 H => ?_)
      refine ls_p (d := some 33) (by kernel_rfl) (by kernel_rfl) (p_conv Tryd.underlying3 Tryd.underlying5 (by kernel_rfl) H) (fun x33 H => ?_)
      refine ls_move (x := x0) (by kernel_rfl) (by kernel_rfl) ?_
      refine ls_p (d := some 35) (by kernel_rfl) (by kernel_rfl) (p_quo (by kernel_rfl) (by kernel_rfl) H) (fun x35 H => ?_)
      refine ls_fr (b := ⟨#[x0, undef, (.slice none 0 0), x0, x4, undef, undef, undef, undef, undef, undef, undef, undef, undef, x0, x15, undef, undef, undef, undef, undef, undef, undef, undef, undef, undef, undef, undef, undef, undef, x0, x31, x32, x33, x0, x35, undef, undef, undef, undef, undef, undef, undef, undef, undef, undef, undef, undef, undef], []⟩) (by kernel_rfl) ?_
      refine ls_p (d := some 36) (by kernel_rfl) (by kernel_rfl) (p_rem (by kernel_rfl) (by kernel_rfl) H) (fun x36 H => ?_)
      refine ls_p (d := some 37) (by kernel_rfl) (by kernel_rfl) (p_add (by kernel_rfl) (by kernel_rfl) H) (fun x37 H => ?_)
      refine ls_p (d := some 38) (by kernel_rfl) (by kernel_rfl) (p_conv Tryd.underlying3 Tryd.underlying5 (by kernel_rfl) H) (fun x38 H => ?_)
      refine ls_move (x := x0) (by kernel_rfl) (by kernel_rfl) ?_
      refine ls_p (d := some 40) (by kernel_rfl) (by kernel_rfl) (p_quo (by kernel_rfl) (by kernel_rfl) H) (fun x40 H => ?_)
      refine ls_p (d := some 41) (by kernel_rfl) (by kernel_rfl) (p_rem (by kernel_rfl) (by kernel_rfl) H) (fun x41 H => ?_)
      refine ls_fr (b := ⟨#[x0, undef, (.slice none 0 0), x0, x4, undef, undef, undef, undef, undef, undef, undef, undef, undef, x0, x15, undef, undef, undef, undef, undef, undef, undef, undef, undef, undef, undef, undef, undef, undef, x0, x31, x32, x33, x0, x35, x36, x37, x38, x0, x40, x41, undef, undef, undef, undef, undef, undef, undef], []⟩) (by kernel_rfl) ?_
      refine ls_p (d := some 42) (by kernel_rfl) (by kernel_rfl) (p_add (by kernel_rfl) (by kernel_rfl) H) (fun x42 H => ?_)
      refine ls_p (d := some 43) (by kernel_rfl) (by kernel_rfl) (p_conv Tryd.underlying3 Tryd.underlying5 (by kernel_rfl) H) (fun x43 H => ?_)
      refine ls_move (x := x0) (by kernel_rfl) (by kernel_rfl) ?_
      refine ls_p (d := some 45) (by kernel_rfl) (by kernel_rfl) (p_rem (by kernel_rfl) (by kernel_rfl) H) (fun x45 H => ?_)
      refine ls_p (d := some 46) (by kernel_rfl) (by kernel_rfl) (p_add (by kernel_rfl) (by kernel_rfl) H) (fun x46 H => ?_)
      refine ls_p (d := some 47) (by kernel_rfl) (by kernel_rfl) (p_conv Tryd.underlying3 Tryd.underlying5 (by kernel_rfl) H) (fun x47 H => ?_)
      refine ls_fr (b := ⟨#[x0, undef, (.slice none 0 0), x0, x4, undef, undef, undef, undef, undef, undef, undef, undef, undef, x0, x15, undef, undef, undef, undef, undef, undef, undef, undef, undef, undef, undef, undef, undef, undef, x0, x31, x32, x33, x0, x35, x36, x37, x38, x0, x40, x41, x42, x43, x0, x45, x46, x47, undef], []⟩) (by kernel_rfl) ?_
      refine ls_d (d := some 48) (by kernel_rfl) (by kernel_rfl) HA (d_slit (zc := #[.int .u8 0]) Tryd.underlying43 Tryd.sizeOf5 (by decide) (.inr ⟨by decide, _, Tryd.zeroValue5, (by kernel_rfl)⟩) (by kernel_rfl) (by kernel_rfl) H) (fun x48 h_2 w_2 H HA_2 => ?_)
      refine ls_assign (x := x48) (by kernel_rfl) (by kernel_rfl) ?_
      refine ls_nil ?_
      refine then_normal ?_
      refine fr_eq (b := ⟨#[x0, undef, x48, x0, x4, undef, undef, undef, undef, undef, undef, undef, undef, undef, x0, x15, undef, undef, undef, undef, undef, undef, undef, undef, undef, undef, undef, undef, undef, undef, x0, x31, x32, x33, x0, x35, x36, x37, x38, x0, x40, x41, x42, x43, x0, x45, x46, x47, x48], []⟩) (by kernel_rfl) ?_
      refine wp_ret ?_
      exact end1 (Tryd.results31) (by kernel_rfl) (by kernel_rfl) HA_2 H _ (.inr rfl)

end Go.Proofs.YtjlpgakoedigoaaDoor
