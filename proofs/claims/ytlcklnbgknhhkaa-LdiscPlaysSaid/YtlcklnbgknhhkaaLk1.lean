/- Texts in one. -/
import Derived.Test.YtlcklnbgknhhkaaFnC
import Derived.Test.YtlcklnbgknhhkaaHwU
import Derived.Test.YtlcklnbgknhhkaaHwB
import Derived.Test.YtlcklnbgknhhkaaHwA
import Derived.Laws.AppendOwn
import Derived.Laws.Entries
import Derived.Laws.NewFold
import Derived.Laws.Externs
section
/- The shallow reading of one function, and that the function does it. Written by a program. -/
set_option linter.unusedVariables false
namespace Go.Proofs.Ytlcklnbgknhhkaa
open Go Go.HW

def termios_isByte_S (x0 : Value) (h : Heap) (R : Value → Heap → Prop) : Prop :=
  sGe x0 (.int .i64 0) fun x4 =>
  sAnd x4 (fun k =>
  sLe x0 (.int .i64 255) fun x7 =>
  k x7) fun x8 =>
  R x8 h
set_option maxRecDepth 100000 in
theorem termios_isByte_runs {x0 : Value} {h : Heap} {R : Value → Heap → Prop} (H : termios_isByte_S x0 h R) : termios_isByte_c x0 h R := by
 unfold termios_isByte_S at H
 refine runs_of (b := ⟨#[x0, ud, ud, ud, ud, ud, ud, ud, ud], []⟩) Try.call59 Try.func59 rfl (by kernel_rfl) (fun w0 HA => ?_)
 refine wp_seq (lwp_list ?_)
 refine ls_assign (x := (.bool false)) (by kernel_rfl) (by kernel_rfl) ?_
 refine ls_nil (then_normal ?_)
 refine fr_eq (b := ⟨#[x0, ud, (.bool false), ud, ud, ud, ud, ud, ud], []⟩) (by kernel_rfl) ?_
 refine wp_seq (lwp_list ?_)
 refine ls_move (x := x0) (by kernel_rfl) (by kernel_rfl) ?_
 refine ls_p (d := some 4) (by kernel_rfl) (by kernel_rfl) (p_sGe (by kernel_rfl) (by kernel_rfl) H) (fun x4 H => ?_)
 refine ls_move (x := x4) (by kernel_rfl) (by kernel_rfl) ?_
 refine ls_and [(), (), ()] (fun K a w => ∃ (D : Nat → Value) (x8 : Value), a = ⟨#[x0, ud, (.bool false), x0, x4, x4, (D 0), (D 1), x8], []⟩ ∧ At w0 w h ∧ K x8) H (fun hb H => ?_) (fun hb H => ?_) ?_
 ·refine ls_move (x := x0) (by rw [hb]; kernel_rfl) (by kernel_rfl) ?_
  refine ls_p (d := some 7) (by kernel_rfl) (by rw [hb]; kernel_rfl) (p_sLe (by kernel_rfl) (by kernel_rfl) H) (fun x7 H => ?_)
  refine ls_pick_t (x := x7) (by kernel_rfl) (by rw [hb]; kernel_rfl) (by kernel_rfl) ?_
  refine ls_nil (then_normal ?_)
  exact ⟨(fun i => ([x0, x7]).getD i ud), x7, by kernel_rfl, HA, H⟩
 ·refine ls_skip (d := some 6) (by kernel_rfl) (by rw [hb]; kernel_rfl) ?_
  refine ls_skip (d := some 7) (by kernel_rfl) (by rw [hb]; kernel_rfl) ?_
  refine ls_pick_f (y := (.bool false)) (by kernel_rfl) (by rw [hb]; kernel_rfl) (by kernel_rfl) ?_
  refine ls_nil (then_normal ?_)
  exact ⟨(fun i => ([ud, ud]).getD i ud), (.bool false), by kernel_rfl, HA, H⟩
 ·rintro _ w ⟨D, x8, rfl, HA, H⟩
  refine ls_assign (x := x8) (by kernel_rfl) (by kernel_rfl) ?_
  refine ls_nil (then_normal ?_)
  refine fr_eq (b := ⟨#[x0, ud, x8, x0, x4, x4, (D 0), (D 1), x8], []⟩) (by kernel_rfl) ?_
  refine wp_ret ?_
  exact end1 (Try.results59) (by kernel_rfl) (by kernel_rfl) HA H _ (.inr rfl)

end Go.Proofs.Ytlcklnbgknhhkaa

end

section
/- The shallow reading of one function, and that the function does it. Written by a program. -/
set_option linter.unusedVariables false
namespace Go.Proofs.Ytlcklnbgknhhkaa
open Go Go.HW

def termios_within_S (x0 x1 : Value) (h : Heap) (R : Value → Heap → Prop) : Prop :=
  sGe x0 (.int .i64 0) fun x6 =>
  sAnd x6 (fun k =>
  sLe x0 x1 fun x10 =>
  k x10) fun x11 =>
  R x11 h
set_option maxRecDepth 100000 in
theorem termios_within_runs {x0 x1 : Value} {h : Heap} {R : Value → Heap → Prop} (H : termios_within_S x0 x1 h R) : termios_within_c x0 x1 h R := by
 unfold termios_within_S at H
 refine runs_of (b := ⟨#[x0, x1, ud, ud, ud, ud, ud, ud, ud, ud, ud, ud], []⟩) Try.call60 Try.func60 rfl (by kernel_rfl) (fun w0 HA => ?_)
 refine wp_seq (lwp_list ?_)
 refine ls_assign (x := (.bool false)) (by kernel_rfl) (by kernel_rfl) ?_
 refine ls_nil (then_normal ?_)
 refine fr_eq (b := ⟨#[x0, x1, ud, ud, (.bool false), ud, ud, ud, ud, ud, ud, ud], []⟩) (by kernel_rfl) ?_
 refine wp_seq (lwp_list ?_)
 refine ls_move (x := x0) (by kernel_rfl) (by kernel_rfl) ?_
 refine ls_p (d := some 6) (by kernel_rfl) (by kernel_rfl) (p_sGe (by kernel_rfl) (by kernel_rfl) H) (fun x6 H => ?_)
 refine ls_move (x := x6) (by kernel_rfl) (by kernel_rfl) ?_
 refine ls_and [(), (), (), ()] (fun K a w => ∃ (D : Nat → Value) (x11 : Value), a = ⟨#[x0, x1, ud, ud, (.bool false), x0, x6, x6, (D 0), (D 1), (D 2), x11], []⟩ ∧ At w0 w h ∧ K x11) H (fun hb H => ?_) (fun hb H => ?_) ?_
 ·refine ls_move (x := x0) (by rw [hb]; kernel_rfl) (by kernel_rfl) ?_
  refine ls_move (x := x1) (by rw [hb]; kernel_rfl) (by kernel_rfl) ?_
  refine ls_p (d := some 10) (by kernel_rfl) (by rw [hb]; kernel_rfl) (p_sLe (by kernel_rfl) (by kernel_rfl) H) (fun x10 H => ?_)
  refine ls_pick_t (x := x10) (by kernel_rfl) (by rw [hb]; kernel_rfl) (by kernel_rfl) ?_
  refine ls_nil (then_normal ?_)
  exact ⟨(fun i => ([x0, x1, x10]).getD i ud), x10, by kernel_rfl, HA, H⟩
 ·refine ls_skip (d := some 8) (by kernel_rfl) (by rw [hb]; kernel_rfl) ?_
  refine ls_skip (d := some 9) (by kernel_rfl) (by rw [hb]; kernel_rfl) ?_
  refine ls_skip (d := some 10) (by kernel_rfl) (by rw [hb]; kernel_rfl) ?_
  refine ls_pick_f (y := (.bool false)) (by kernel_rfl) (by rw [hb]; kernel_rfl) (by kernel_rfl) ?_
  refine ls_nil (then_normal ?_)
  exact ⟨(fun i => ([ud, ud, ud]).getD i ud), (.bool false), by kernel_rfl, HA, H⟩
 ·rintro _ w ⟨D, x11, rfl, HA, H⟩
  refine ls_assign (x := x11) (by kernel_rfl) (by kernel_rfl) ?_
  refine ls_nil (then_normal ?_)
  refine fr_eq (b := ⟨#[x0, x1, ud, ud, x11, x0, x6, x6, (D 0), (D 1), (D 2), x11], []⟩) (by kernel_rfl) ?_
  refine wp_ret ?_
  exact end1 (Try.results60) (by kernel_rfl) (by kernel_rfl) HA H _ (.inr rfl)

end Go.Proofs.Ytlcklnbgknhhkaa

end

section
/- The shallow reading of one function, and that the function does it. Written by a program. -/
set_option linter.unusedVariables false
namespace Go.Proofs.Ytlcklnbgknhhkaa
open Go Go.HW

def termios_Right_l1 (R : Value → Heap → Prop) (x1 x6 : Value) (next : Value → Heap → Prop) (x7 : Value) (h_1 : Heap) : Prop :=
  sLt x7 (.int .i64 12) fun x8 =>
  sIf x8 (sIxV x6 x7 12 fun x9 =>
  termios_isByte_c x9 h_1 fun x11 h_2 => 
  sNot x11 fun x12 =>
  sIf x12 (R (.bool false) h_2) (sAdd .i64 x7 (.int .i64 1) fun x13 =>
  next x13 h_2)) (sOff x1 0 fun x14 =>
  sLd h_1 x14 fun x15 =>
  termios_within_c x15 (.int .i64 127) h_1 fun x16 h_3 => 
  sAndH x16 h_3 (fun k_3 =>
  sOff x1 1 fun x18 =>
  sLd h_3 x18 fun x19 =>
  termios_within_c x19 (.int .i64 63) h_3 fun x20 h_11 => 
  k_3 x20 h_11) fun x21 h_4 =>
  sAndH x21 h_4 (fun k_2 =>
  sOff x1 2 fun x23 =>
  sLd h_4 x23 fun x24 =>
  termios_within_c x24 (.int .i64 1023) h_4 fun x25 h_10 => 
  k_2 x25 h_10) fun x26 h_5 =>
  sAndH x26 h_5 (fun k_1 =>
  sOff x1 15 fun x28 =>
  sLd h_5 x28 fun x29 =>
  termios_isByte_c x29 h_5 fun x30 h_9 => 
  k_1 x30 h_9) fun x31 h_6 =>
  sAndH x31 h_6 (fun k =>
  sOff x1 16 fun x33 =>
  sLd h_6 x33 fun x34 =>
  termios_isByte_c x34 h_6 fun x35 h_8 => 
  k x35 h_8) fun x36 h_7 =>
  R x36 h_7)
def termios_Right_S (x0 : Value) (h : Heap) (R : Value → Heap → Prop) : Prop :=
  sBox h x0 28 fun x1 h => 
  sOff x1 3 fun x5 =>
  sLdN h x5 12 fun x6 =>
  sLoop (S := Value) (fun nxt s h => termios_Right_l1 R x1 x6 (fun x7' h => nxt x7' h) s h) (.int .i64 0) h
set_option maxRecDepth 100000 in
theorem termios_Right_runs {x0 : Value} {h : Heap} {R : Value → Heap → Prop} (H : termios_Right_S x0 h R) : termios_Right_c x0 h R := by
 unfold termios_Right_S at H
 refine runs_of (b := ⟨#[x0, ud, ud, ud, ud, ud, ud, ud, ud, ud, ud, ud, ud, ud, ud, ud, ud, ud, ud, ud, ud, ud, ud, ud, ud, ud, ud, ud, ud, ud, ud, ud, ud, ud, ud, ud, ud], []⟩) Try.call40 Try.func40 rfl (by kernel_rfl) (fun w0 HA => ?_)
 refine wp_seq (lwp_list ?_)
 refine ls_d (d := some 1) (by kernel_rfl) (by kernel_rfl) HA (d_box (by kernel_rfl) H) (fun x1 h w H HA => ?_)
 refine ls_assign (x := (.bool false)) (by kernel_rfl) (by kernel_rfl) ?_
 refine ls_nil (then_normal ?_)
 refine fr_eq (b := ⟨#[x0, x1, (.bool false), ud, ud, ud, ud, ud, ud, ud, ud, ud, ud, ud, ud, ud, ud, ud, ud, ud, ud, ud, ud, ud, ud, ud, ud, ud, ud, ud, ud, ud, ud, ud, ud, ud, ud], []⟩) (by kernel_rfl) ?_
 refine wp_seq ?_
 refine wp_seq (lwp_list ?_)
 refine ls_p (d := some 5) (by kernel_rfl) (by kernel_rfl) (p_off Try.underlying28 rfl (fun w => ⟨_, Try.sizeOf26 w⟩) rfl (by kernel_rfl) H) (fun x5 H => ?_)
 refine ls_y (d := some 6) (by kernel_rfl) (by kernel_rfl) HA (y_ldn Try.isAgg26 Try.sizeOf26 (by kernel_rfl) H) (fun x6 H => ?_)
 refine ls_move (x := (.int .i64 0)) (by kernel_rfl) (by kernel_rfl) ?_
 refine ls_nil (then_normal ?_)
 refine fr_eq (b := ⟨#[x0, x1, (.bool false), ud, ud, x5, x6, (.int .i64 0), ud, ud, ud, ud, ud, ud, ud, ud, ud, ud, ud, ud, ud, ud, ud, ud, ud, ud, ud, ud, ud, ud, ud, ud, ud, ud, ud, ud, ud], []⟩) (by kernel_rfl) ?_
 refine wp_block ?_
 obtain ⟨I, m, H0, HB⟩ := H
 refine wp_loop (fun a w => ∃ (D : Nat → Value) (x7 : Value) (h_1 : Heap), a = ⟨#[x0, x1, (D 0), ud, (D 1), x5, x6, x7, (D 2), (D 3), (D 4), (D 5), (D 6), (D 7), ud, ud, ud, ud, ud, ud, ud, ud, ud, ud, ud, ud, ud, ud, ud, ud, ud, ud, ud, ud, ud, ud, ud], []⟩ ∧ At w0 w h_1 ∧ I x7 h_1) (fun a w => m (a.tmps.getD 7 ud) w.heap) ?_ ?_
 ·exact ⟨(fun i => (Ap [(.bool false)] 7).getD i ud), (.int .i64 0), h, by kernel_rfl, HA, H0⟩
 ·rintro _ w_1 ⟨D, x7, h_1, rfl, HA_1, HI⟩
  have H : termios_Right_l1 R x1 x6 (fun x7' h' => I x7' h' ∧ m x7' h' < m x7 h_1) x7 h_1 := HB x7 h_1 HI
  clear HB H0 HI
  unfold termios_Right_l1 at H
  refine wp_seq (lwp_list ?_)
  refine ls_p (d := some 8) (by kernel_rfl) (by kernel_rfl) (p_sLt (by kernel_rfl) (by kernel_rfl) H) (fun x8 H => ?_)
  refine ls_nil (then_normal ?_)
  refine fr_eq (b := ⟨#[x0, x1, (D 0), ud, (D 1), x5, x6, x7, x8, (D 3), (D 4), (D 5), (D 6), (D 7), ud, ud, ud, ud, ud, ud, ud, ud, ud, ud, ud, ud, ud, ud, ud, ud, ud, ud, ud, ud, ud, ud, ud], []⟩) (by kernel_rfl) ?_
  refine wp_seq ?_
  refine wp_if rfl H (fun H => ?_) (fun H => ?_)
  ·refine wp_skip ?_
   refine then_normal ?_
   refine fr_eq (b := ⟨#[x0, x1, (D 0), ud, (D 1), x5, x6, x7, x8, (D 3), (D 4), (D 5), (D 6), (D 7), ud, ud, ud, ud, ud, ud, ud, ud, ud, ud, ud, ud, ud, ud, ud, ud, ud, ud, ud, ud, ud, ud, ud], []⟩) (by kernel_rfl) ?_
   refine wp_seq ?_
   refine wp_block ?_
   refine wp_seq (lwp_list ?_)
   refine ls_p (d := some 9) (by kernel_rfl) (by kernel_rfl) (p_ixv Try.underlying26 Try.sizeOf3 Try.isAgg3 (by kernel_rfl) (by kernel_rfl) H) (fun x9 H => ?_)
   refine ls_assign (x := x9) (by kernel_rfl) (by kernel_rfl) ?_
   refine ls_nil (then_normal ?_)
   refine fr_eq (b := ⟨#[x0, x1, (D 0), ud, x9, x5, x6, x7, x8, x9, (D 4), (D 5), (D 6), (D 7), ud, ud, ud, ud, ud, ud, ud, ud, ud, ud, ud, ud, ud, ud, ud, ud, ud, ud, ud, ud, ud, ud, ud], []⟩) (by kernel_rfl) ?_
   refine wp_seq (lwp_list ?_)
   refine ls_move (x := x9) (by kernel_rfl) (by kernel_rfl) ?_
   refine ls_d (d := some 11) (by kernel_rfl) (by kernel_rfl) HA_1 (d_call (by kernel_rfl) (by kernel_rfl) H) (fun x11 h_2 w_2 H HA_2 => ?_)
   refine ls_p (d := some 12) (by kernel_rfl) (by kernel_rfl) (p_not (by kernel_rfl) H) (fun x12 H => ?_)
   refine ls_nil (then_normal ?_)
   refine fr_eq (b := ⟨#[x0, x1, (D 0), ud, x9, x5, x6, x7, x8, x9, x9, x11, x12, (D 7), ud, ud, ud, ud, ud, ud, ud, ud, ud, ud, ud, ud, ud, ud, ud, ud, ud, ud, ud, ud, ud, ud, ud], []⟩) (by kernel_rfl) ?_
   refine wp_if rfl H (fun H => ?_) (fun H => ?_)
   ·refine wp_seq (lwp_list ?_)
    refine ls_assign (x := (.bool false)) (by kernel_rfl) (by kernel_rfl) ?_
    refine ls_nil (then_normal ?_)
    refine fr_eq (b := ⟨#[x0, x1, (.bool false), ud, x9, x5, x6, x7, x8, x9, x9, x11, x12, (D 7), ud, ud, ud, ud, ud, ud, ud, ud, ud, ud, ud, ud, ud, ud, ud, ud, ud, ud, ud, ud, ud, ud, ud], []⟩) (by kernel_rfl) ?_
    refine wp_ret ?_
    refine block_ret ?_
    refine then_ret ?_
    refine then_ret ?_
    refine block_ret ?_
    refine then_ret ?_
    exact end1 (Try.results40) (by kernel_rfl) (by kernel_rfl) HA_2 H _ (.inr rfl)
   ·refine wp_skip ?_
    refine block_normal ?_
    refine then_normal ?_
    refine fr_eq (b := ⟨#[x0, x1, (D 0), ud, x9, x5, x6, x7, x8, x9, x9, x11, x12, (D 7), ud, ud, ud, ud, ud, ud, ud, ud, ud, ud, ud, ud, ud, ud, ud, ud, ud, ud, ud, ud, ud, ud, ud], []⟩) (by kernel_rfl) ?_
    refine lwp_list ?_
    refine ls_p (d := some 13) (by kernel_rfl) (by kernel_rfl) (p_add (by kernel_rfl) (by kernel_rfl) H) (fun x13 H => ?_)
    refine ls_move (x := x13) (by kernel_rfl) (by kernel_rfl) ?_
    refine ls_nil ?_
    exact ⟨⟨(fun i => ([(D 0), x9, x8, x9, x9, x11, x12, x13]).getD i ud), x13, h_2, by kernel_rfl, HA_2, H.1⟩, loop_lt HA_2.heap HA_1.heap (by kernel_rfl) (by kernel_rfl) H.2⟩
  ·refine wp_exit ?_
   refine then_exit ?_
   refine then_exit ?_
   refine block_exit ?_
   refine then_normal ?_
   refine fr_eq (b := ⟨#[x0, x1, (D 0), ud, (D 1), x5, x6, x7, x8, (D 3), (D 4), (D 5), (D 6), (D 7), ud, ud, ud, ud, ud, ud, ud, ud, ud, ud, ud, ud, ud, ud, ud, ud, ud, ud, ud, ud, ud, ud, ud], []⟩) (by kernel_rfl) ?_
   refine wp_seq (lwp_list ?_)
   refine ls_p (d := some 14) (by kernel_rfl) (by kernel_rfl) (p_off Try.underlying28 rfl (fun w => ⟨_, Try.sizeOf3 w⟩) rfl (by kernel_rfl) H) (fun x14 H => ?_)
   refine ls_y (d := some 15) (by kernel_rfl) (by kernel_rfl) HA_1 (y_ld Try.isAgg3 (by kernel_rfl) H) (fun x15 H => ?_)
   refine ls_d (d := some 16) (by kernel_rfl) (by kernel_rfl) HA_1 (d_call (by kernel_rfl) (by kernel_rfl) H) (fun x16 h_3 w_3 H HA_3 => ?_)
   refine ls_move (x := x16) (by kernel_rfl) (by kernel_rfl) ?_
   refine ls_andh [(), (), (), ()] (fun K a w => ∃ (D_1 : Nat → Value) (x21 : Value) (h_4 : Heap), a = ⟨#[x0, x1, (D 0), ud, (D 1), x5, x6, x7, x8, (D 3), (D 4), (D 5), (D 6), (D 7), x14, x15, x16, x16, (D_1 0), (D_1 1), (D_1 2), x21, ud, ud, ud, ud, ud, ud, ud, ud, ud, ud, ud, ud, ud, ud, ud], []⟩ ∧ At w0 w h_4 ∧ K x21 h_4) H (fun hb_3 H => ?_) (fun hb_3 H => ?_) ?_
   ·refine ls_p (d := some 18) (by kernel_rfl) (by rw [hb_3]; kernel_rfl) (p_off Try.underlying28 rfl (fun w => ⟨_, Try.sizeOf3 w⟩) rfl (by kernel_rfl) H) (fun x18 H => ?_)
    refine ls_y (d := some 19) (by kernel_rfl) (by rw [hb_3]; kernel_rfl) HA_3 (y_ld Try.isAgg3 (by kernel_rfl) H) (fun x19 H => ?_)
    refine ls_fr (b := ⟨#[x0, x1, (D 0), ud, (D 1), x5, x6, x7, x8, (D 3), (D 4), (D 5), (D 6), (D 7), x14, x15, x16, x16, x18, x19, ud, ud, ud, ud, ud, ud, ud, ud, ud, ud, ud, ud, ud, ud, ud, ud, ud], []⟩) (by kernel_rfl) ?_
    refine ls_d (d := some 20) (by kernel_rfl) (by rw [hb_3]; kernel_rfl) HA_3 (d_call (by kernel_rfl) (by kernel_rfl) H) (fun x20 h_11 w_11 H HA_11 => ?_)
    refine ls_pick_t (x := x20) (by kernel_rfl) (by rw [hb_3]; kernel_rfl) (by kernel_rfl) ?_
    refine ls_nil (then_normal ?_)
    exact ⟨(fun i => ([x18, x19, x20]).getD i ud), x20, h_11, by kernel_rfl, HA_11, H⟩
   ·refine ls_skip (d := some 18) (by kernel_rfl) (by rw [hb_3]; kernel_rfl) ?_
    refine ls_skip (d := some 19) (by kernel_rfl) (by rw [hb_3]; kernel_rfl) ?_
    refine ls_fr (b := ⟨#[x0, x1, (D 0), ud, (D 1), x5, x6, x7, x8, (D 3), (D 4), (D 5), (D 6), (D 7), x14, x15, x16, x16, ud, ud, ud, ud, ud, ud, ud, ud, ud, ud, ud, ud, ud, ud, ud, ud, ud, ud, ud], []⟩) (by kernel_rfl) ?_
    refine ls_skip (d := some 20) (by kernel_rfl) (by rw [hb_3]; kernel_rfl) ?_
    refine ls_pick_f (y := (.bool false)) (by kernel_rfl) (by rw [hb_3]; kernel_rfl) (by kernel_rfl) ?_
    refine ls_nil (then_normal ?_)
    exact ⟨(fun i => ([ud, ud, ud]).getD i ud), (.bool false), h_3, by kernel_rfl, HA_3, H⟩
   ·rintro _ w_4 ⟨D_1, x21, h_4, rfl, HA_4, H⟩
    refine ls_move (x := x21) (by kernel_rfl) (by kernel_rfl) ?_
    refine ls_andh [(), (), (), ()] (fun K a w => ∃ (D_2 : Nat → Value) (x26 : Value) (h_5 : Heap), a = ⟨#[x0, x1, (D 0), ud, (D 1), x5, x6, x7, x8, (D 3), (D 4), (D 5), (D 6), (D 7), x14, x15, x16, x16, (D_1 0), (D_1 1), (D_1 2), x21, x21, (D_2 0), (D_2 1), (D_2 2), x26, ud, ud, ud, ud, ud, ud, ud, ud, ud, ud], []⟩ ∧ At w0 w h_5 ∧ K x26 h_5) H (fun hb_2 H => ?_) (fun hb_2 H => ?_) ?_
    ·refine ls_p (d := some 23) (by kernel_rfl) (by rw [hb_2]; kernel_rfl) (p_off Try.underlying28 rfl (fun w => ⟨_, Try.sizeOf3 w⟩) rfl (by kernel_rfl) H) (fun x23 H => ?_)
     refine ls_y (d := some 24) (by kernel_rfl) (by rw [hb_2]; kernel_rfl) HA_4 (y_ld Try.isAgg3 (by kernel_rfl) H) (fun x24 H => ?_)
     refine ls_d (d := some 25) (by kernel_rfl) (by rw [hb_2]; kernel_rfl) HA_4 (d_call (by kernel_rfl) (by kernel_rfl) H) (fun x25 h_10 w_10 H HA_10 => ?_)
     refine ls_pick_t (x := x25) (by kernel_rfl) (by rw [hb_2]; kernel_rfl) (by kernel_rfl) ?_
     refine ls_nil (then_normal ?_)
     exact ⟨(fun i => ([x23, x24, x25]).getD i ud), x25, h_10, by kernel_rfl, HA_10, H⟩
    ·refine ls_skip (d := some 23) (by kernel_rfl) (by rw [hb_2]; kernel_rfl) ?_
     refine ls_skip (d := some 24) (by kernel_rfl) (by rw [hb_2]; kernel_rfl) ?_
     refine ls_skip (d := some 25) (by kernel_rfl) (by rw [hb_2]; kernel_rfl) ?_
     refine ls_pick_f (y := (.bool false)) (by kernel_rfl) (by rw [hb_2]; kernel_rfl) (by kernel_rfl) ?_
     refine ls_nil (then_normal ?_)
     exact ⟨(fun i => ([ud, ud, ud]).getD i ud), (.bool false), h_4, by kernel_rfl, HA_4, H⟩
    ·rintro _ w_5 ⟨D_2, x26, h_5, rfl, HA_5, H⟩
     refine ls_move (x := x26) (by kernel_rfl) (by kernel_rfl) ?_
     refine ls_andh [(), (), (), ()] (fun K a w => ∃ (D_3 : Nat → Value) (x31 : Value) (h_6 : Heap), a = ⟨#[x0, x1, (D 0), ud, (D 1), x5, x6, x7, x8, (D 3), (D 4), (D 5), (D 6), (D 7), x14, x15, x16, x16, (D_1 0), (D_1 1), (D_1 2), x21, x21, (D_2 0), (D_2 1), (D_2 2), x26, x26, (D_3 0), (D_3 1), (D_3 2), x31, ud, ud, ud, ud, ud], []⟩ ∧ At w0 w h_6 ∧ K x31 h_6) H (fun hb_1 H => ?_) (fun hb_1 H => ?_) ?_
     ·refine ls_p (d := some 28) (by kernel_rfl) (by rw [hb_1]; kernel_rfl) (p_off Try.underlying28 rfl (fun w => ⟨_, Try.sizeOf3 w⟩) rfl (by kernel_rfl) H) (fun x28 H => ?_)
      refine ls_y (d := some 29) (by kernel_rfl) (by rw [hb_1]; kernel_rfl) HA_5 (y_ld Try.isAgg3 (by kernel_rfl) H) (fun x29 H => ?_)
      refine ls_d (d := some 30) (by kernel_rfl) (by rw [hb_1]; kernel_rfl) HA_5 (d_call (by kernel_rfl) (by kernel_rfl) H) (fun x30 h_9 w_9 H HA_9 => ?_)
      refine ls_pick_t (x := x30) (by kernel_rfl) (by rw [hb_1]; kernel_rfl) (by kernel_rfl) ?_
      refine ls_nil (then_normal ?_)
      exact ⟨(fun i => ([x28, x29, x30]).getD i ud), x30, h_9, by kernel_rfl, HA_9, H⟩
     ·refine ls_skip (d := some 28) (by kernel_rfl) (by rw [hb_1]; kernel_rfl) ?_
      refine ls_skip (d := some 29) (by kernel_rfl) (by rw [hb_1]; kernel_rfl) ?_
      refine ls_skip (d := some 30) (by kernel_rfl) (by rw [hb_1]; kernel_rfl) ?_
      refine ls_pick_f (y := (.bool false)) (by kernel_rfl) (by rw [hb_1]; kernel_rfl) (by kernel_rfl) ?_
      refine ls_nil (then_normal ?_)
      exact ⟨(fun i => ([ud, ud, ud]).getD i ud), (.bool false), h_5, by kernel_rfl, HA_5, H⟩
     ·rintro _ w_6 ⟨D_3, x31, h_6, rfl, HA_6, H⟩
      refine ls_move (x := x31) (by kernel_rfl) (by kernel_rfl) ?_
      refine ls_andh [(), (), (), ()] (fun K a w => ∃ (D_4 : Nat → Value) (x36 : Value) (h_7 : Heap), a = ⟨#[x0, x1, (D 0), ud, (D 1), x5, x6, x7, x8, (D 3), (D 4), (D 5), (D 6), (D 7), x14, x15, x16, x16, (D_1 0), (D_1 1), (D_1 2), x21, x21, (D_2 0), (D_2 1), (D_2 2), x26, x26, (D_3 0), (D_3 1), (D_3 2), x31, x31, (D_4 0), (D_4 1), (D_4 2), x36], []⟩ ∧ At w0 w h_7 ∧ K x36 h_7) H (fun hb H => ?_) (fun hb H => ?_) ?_
      ·refine ls_p (d := some 33) (by kernel_rfl) (by rw [hb]; kernel_rfl) (p_off Try.underlying28 rfl (fun w => ⟨_, Try.sizeOf3 w⟩) rfl (by kernel_rfl) H) (fun x33 H => ?_)
       refine ls_y (d := some 34) (by kernel_rfl) (by rw [hb]; kernel_rfl) HA_6 (y_ld Try.isAgg3 (by kernel_rfl) H) (fun x34 H => ?_)
       refine ls_d (d := some 35) (by kernel_rfl) (by rw [hb]; kernel_rfl) HA_6 (d_call (by kernel_rfl) (by kernel_rfl) H) (fun x35 h_8 w_8 H HA_8 => ?_)
       refine ls_pick_t (x := x35) (by kernel_rfl) (by rw [hb]; kernel_rfl) (by kernel_rfl) ?_
       refine ls_nil (then_normal ?_)
       exact ⟨(fun i => ([x33, x34, x35]).getD i ud), x35, h_8, by kernel_rfl, HA_8, H⟩
      ·refine ls_skip (d := some 33) (by kernel_rfl) (by rw [hb]; kernel_rfl) ?_
       refine ls_skip (d := some 34) (by kernel_rfl) (by rw [hb]; kernel_rfl) ?_
       refine ls_skip (d := some 35) (by kernel_rfl) (by rw [hb]; kernel_rfl) ?_
       refine ls_pick_f (y := (.bool false)) (by kernel_rfl) (by rw [hb]; kernel_rfl) (by kernel_rfl) ?_
       refine ls_nil (then_normal ?_)
       exact ⟨(fun i => ([ud, ud, ud]).getD i ud), (.bool false), h_6, by kernel_rfl, HA_6, H⟩
      ·rintro _ w_7 ⟨D_4, x36, h_7, rfl, HA_7, H⟩
       refine ls_assign (x := x36) (by kernel_rfl) (by kernel_rfl) ?_
       refine ls_nil (then_normal ?_)
       refine fr_eq (b := ⟨#[x0, x1, x36, ud, (D 1), x5, x6, x7, x8, (D 3), (D 4), (D 5), (D 6), (D 7), x14, x15, x16, x16, (D_1 0), (D_1 1), (D_1 2), x21, x21, (D_2 0), (D_2 1), (D_2 2), x26, x26, (D_3 0), (D_3 1), (D_3 2), x31, x31, (D_4 0), (D_4 1), (D_4 2), x36], []⟩) (by kernel_rfl) ?_
       refine wp_ret ?_
       exact end1 (Try.results40) (by kernel_rfl) (by kernel_rfl) HA_7 H _ (.inr rfl)

end Go.Proofs.Ytlcklnbgknhhkaa

end

section
/- The shallow reading of one function, and that the function does it. Written by a program. -/
set_option linter.unusedVariables false
namespace Go.Proofs.Ytlcklnbgknhhkaa
open Go Go.HW

def termios_Is_S (x0 x1 x2 : Value) (h : Heap) (R : Value → Heap → Prop) : Prop :=
  sBox h x0 28 fun x3 h => 
  sGe x1 (.int .i64 0) fun x8 =>
  sAnd x8 (fun k_2 =>
  sLt x1 (.int .i64 12) fun x11 =>
  k_2 x11) fun x12 =>
  sAnd x12 (fun k_1 =>
  sNe x2 (.int .u8 0) fun x15 =>
  k_1 x15) fun x16 =>
  sAnd x16 (fun k =>
  sOff x3 3 fun x19 =>
  sIxA x19 x1 12 1 fun x20 =>
  sLd h x20 fun x21 =>
  sConv .i64 x2 fun x23 =>
  sEq x21 x23 fun x24 =>
  k x24) fun x25 =>
  R x25 h
set_option maxRecDepth 100000 in
theorem termios_Is_runs {x0 x1 x2 : Value} {h : Heap} {R : Value → Heap → Prop} (H : termios_Is_S x0 x1 x2 h R) : termios_Is_c x0 x1 x2 h R := by
 unfold termios_Is_S at H
 refine runs_of (b := ⟨#[x0, x1, x2, ud, ud, ud, ud, ud, ud, ud, ud, ud, ud, ud, ud, ud, ud, ud, ud, ud, ud, ud, ud, ud, ud, ud], []⟩) Try.call85 Try.func85 rfl (by kernel_rfl) (fun w0 HA => ?_)
 refine wp_seq (lwp_list ?_)
 refine ls_d (d := some 3) (by kernel_rfl) (by kernel_rfl) HA (d_box (by kernel_rfl) H) (fun x3 h w H HA => ?_)
 refine ls_assign (x := (.bool false)) (by kernel_rfl) (by kernel_rfl) ?_
 refine ls_nil (then_normal ?_)
 refine fr_eq (b := ⟨#[x0, x1, x2, x3, ud, ud, (.bool false), ud, ud, ud, ud, ud, ud, ud, ud, ud, ud, ud, ud, ud, ud, ud, ud, ud, ud, ud], []⟩) (by kernel_rfl) ?_
 refine wp_seq (lwp_list ?_)
 refine ls_move (x := x1) (by kernel_rfl) (by kernel_rfl) ?_
 refine ls_p (d := some 8) (by kernel_rfl) (by kernel_rfl) (p_sGe (by kernel_rfl) (by kernel_rfl) H) (fun x8 H => ?_)
 refine ls_move (x := x8) (by kernel_rfl) (by kernel_rfl) ?_
 refine ls_and [(), (), ()] (fun K a w => ∃ (D : Nat → Value) (x12 : Value), a = ⟨#[x0, x1, x2, x3, ud, ud, (.bool false), x1, x8, x8, (D 0), (D 1), x12, ud, ud, ud, ud, ud, ud, ud, ud, ud, ud, ud, ud, ud], []⟩ ∧ At w0 w h ∧ K x12) H (fun hb_2 H => ?_) (fun hb_2 H => ?_) ?_
 ·refine ls_move (x := x1) (by rw [hb_2]; kernel_rfl) (by kernel_rfl) ?_
  refine ls_p (d := some 11) (by kernel_rfl) (by rw [hb_2]; kernel_rfl) (p_sLt (by kernel_rfl) (by kernel_rfl) H) (fun x11 H => ?_)
  refine ls_pick_t (x := x11) (by kernel_rfl) (by rw [hb_2]; kernel_rfl) (by kernel_rfl) ?_
  refine ls_nil (then_normal ?_)
  exact ⟨(fun i => ([x1, x11]).getD i ud), x11, by kernel_rfl, HA, H⟩
 ·refine ls_skip (d := some 10) (by kernel_rfl) (by rw [hb_2]; kernel_rfl) ?_
  refine ls_skip (d := some 11) (by kernel_rfl) (by rw [hb_2]; kernel_rfl) ?_
  refine ls_pick_f (y := (.bool false)) (by kernel_rfl) (by rw [hb_2]; kernel_rfl) (by kernel_rfl) ?_
  refine ls_nil (then_normal ?_)
  exact ⟨(fun i => ([ud, ud]).getD i ud), (.bool false), by kernel_rfl, HA, H⟩
 ·rintro _ w_1 ⟨D, x12, rfl, HA_1, H⟩
  refine ls_move (x := x12) (by kernel_rfl) (by kernel_rfl) ?_
  refine ls_and [(), (), ()] (fun K a w => ∃ (D_1 : Nat → Value) (x16 : Value), a = ⟨#[x0, x1, x2, x3, ud, ud, (.bool false), x1, x8, x8, (D 0), (D 1), x12, x12, (D_1 0), (D_1 1), x16, ud, ud, ud, ud, ud, ud, ud, ud, ud], []⟩ ∧ At w0 w h ∧ K x16) H (fun hb_1 H => ?_) (fun hb_1 H => ?_) ?_
  ·refine ls_move (x := x2) (by rw [hb_1]; kernel_rfl) (by kernel_rfl) ?_
   refine ls_p (d := some 15) (by kernel_rfl) (by rw [hb_1]; kernel_rfl) (p_sNe (by kernel_rfl) (by kernel_rfl) H) (fun x15 H => ?_)
   refine ls_pick_t (x := x15) (by kernel_rfl) (by rw [hb_1]; kernel_rfl) (by kernel_rfl) ?_
   refine ls_nil (then_normal ?_)
   exact ⟨(fun i => ([x2, x15]).getD i ud), x15, by kernel_rfl, HA_1, H⟩
  ·refine ls_skip (d := some 14) (by kernel_rfl) (by rw [hb_1]; kernel_rfl) ?_
   refine ls_skip (d := some 15) (by kernel_rfl) (by rw [hb_1]; kernel_rfl) ?_
   refine ls_pick_f (y := (.bool false)) (by kernel_rfl) (by rw [hb_1]; kernel_rfl) (by kernel_rfl) ?_
   refine ls_nil (then_normal ?_)
   exact ⟨(fun i => ([ud, ud]).getD i ud), (.bool false), by kernel_rfl, HA_1, H⟩
  ·rintro _ w_2 ⟨D_1, x16, rfl, HA_2, H⟩
   refine ls_move (x := x16) (by kernel_rfl) (by kernel_rfl) ?_
   refine ls_and [(), (), (), (), (), (), (), ()] (fun K a w => ∃ (D_2 : Nat → Value) (x25 : Value), a = ⟨#[x0, x1, x2, x3, ud, ud, (.bool false), x1, x8, x8, (D 0), (D 1), x12, x12, (D_1 0), (D_1 1), x16, x16, (D_2 0), (D_2 1), (D_2 2), (D_2 3), (D_2 4), (D_2 5), (D_2 6), x25], []⟩ ∧ At w0 w h ∧ K x25) H (fun hb H => ?_) (fun hb H => ?_) ?_
   ·refine ls_move (x := x1) (by rw [hb]; kernel_rfl) (by kernel_rfl) ?_
    refine ls_p (d := some 19) (by kernel_rfl) (by rw [hb]; kernel_rfl) (p_off Try.underlying28 rfl (fun w => ⟨_, Try.sizeOf26 w⟩) rfl (by kernel_rfl) H) (fun x19 H => ?_)
    refine ls_p (d := some 20) (by kernel_rfl) (by rw [hb]; kernel_rfl) (p_ixa Try.underlying26 Try.sizeOf3 (by kernel_rfl) (by kernel_rfl) H) (fun x20 H => ?_)
    refine ls_y (d := some 21) (by kernel_rfl) (by rw [hb]; kernel_rfl) HA_2 (y_ld Try.isAgg3 (by kernel_rfl) H) (fun x21 H => ?_)
    refine ls_move (x := x2) (by rw [hb]; kernel_rfl) (by kernel_rfl) ?_
    refine ls_fr (b := ⟨#[x0, x1, x2, x3, ud, ud, (.bool false), x1, x8, x8, (D 0), (D 1), x12, x12, (D_1 0), (D_1 1), x16, x16, x1, x19, x20, x21, x2, ud, ud, ud], []⟩) (by kernel_rfl) ?_
    refine ls_p (d := some 23) (by kernel_rfl) (by rw [hb]; kernel_rfl) (p_conv Try.underlying5 Try.underlying3 (by kernel_rfl) H) (fun x23 H => ?_)
    refine ls_p (d := some 24) (by kernel_rfl) (by rw [hb]; kernel_rfl) (p_sEq (by kernel_rfl) (by kernel_rfl) H) (fun x24 H => ?_)
    refine ls_pick_t (x := x24) (by kernel_rfl) (by rw [hb]; kernel_rfl) (by kernel_rfl) ?_
    refine ls_nil (then_normal ?_)
    exact ⟨(fun i => ([x1, x19, x20, x21, x2, x23, x24]).getD i ud), x24, by kernel_rfl, HA_2, H⟩
   ·refine ls_skip (d := some 18) (by kernel_rfl) (by rw [hb]; kernel_rfl) ?_
    refine ls_skip (d := some 19) (by kernel_rfl) (by rw [hb]; kernel_rfl) ?_
    refine ls_skip (d := some 20) (by kernel_rfl) (by rw [hb]; kernel_rfl) ?_
    refine ls_skip (d := some 21) (by kernel_rfl) (by rw [hb]; kernel_rfl) ?_
    refine ls_skip (d := some 22) (by kernel_rfl) (by rw [hb]; kernel_rfl) ?_
    refine ls_fr (b := ⟨#[x0, x1, x2, x3, ud, ud, (.bool false), x1, x8, x8, (D 0), (D 1), x12, x12, (D_1 0), (D_1 1), x16, x16, ud, ud, ud, ud, ud, ud, ud, ud], []⟩) (by kernel_rfl) ?_
    refine ls_skip (d := some 23) (by kernel_rfl) (by rw [hb]; kernel_rfl) ?_
    refine ls_skip (d := some 24) (by kernel_rfl) (by rw [hb]; kernel_rfl) ?_
    refine ls_pick_f (y := (.bool false)) (by kernel_rfl) (by rw [hb]; kernel_rfl) (by kernel_rfl) ?_
    refine ls_nil (then_normal ?_)
    exact ⟨(fun i => (Ap [] 7).getD i ud), (.bool false), by kernel_rfl, HA_2, H⟩
   ·rintro _ w_3 ⟨D_2, x25, rfl, HA_3, H⟩
    refine ls_assign (x := x25) (by kernel_rfl) (by kernel_rfl) ?_
    refine ls_nil (then_normal ?_)
    refine fr_eq (b := ⟨#[x0, x1, x2, x3, ud, ud, x25, x1, x8, x8, (D 0), (D 1), x12, x12, (D_1 0), (D_1 1), x16, x16, (D_2 0), (D_2 1), (D_2 2), (D_2 3), (D_2 4), (D_2 5), (D_2 6), x25], []⟩) (by kernel_rfl) ?_
    refine wp_ret ?_
    exact end1 (Try.results85) (by kernel_rfl) (by kernel_rfl) HA_3 H _ (.inr rfl)

end Go.Proofs.Ytlcklnbgknhhkaa

end

section
/- The shallow reading of one function, and that the function does it. Written by a program. -/
set_option linter.unusedVariables false
namespace Go.Proofs.Ytlcklnbgknhhkaa
open Go Go.HW

def termios_Map_j1 (R : Value → Heap → Prop) (x2 x1_1 : Value) (h_1 : Heap) : Prop :=
  sEq x1_1 (.int .u8 13) fun x14 =>
  sAnd x14 (fun k_2 =>
  sOff x2 0 fun x16 =>
  sLd h_1 x16 fun x17 =>
  sBits .and .i64 x17 (.int .i64 2) fun x18 =>
  sNe x18 (.int .i64 0) fun x19 =>
  k_2 x19) fun x20 =>
  sIf x20 (R (.tuple #[(.int .u8 0), (.bool false)]) h_1) (sEq x1_1 (.int .u8 13) fun x23 =>
  sAnd x23 (fun k_1 =>
  sOff x2 0 fun x25 =>
  sLd h_1 x25 fun x26 =>
  sBits .and .i64 x26 (.int .i64 4) fun x27 =>
  sNe x27 (.int .i64 0) fun x28 =>
  k_1 x28) fun x29 =>
  sIf x29 (R (.tuple #[(.int .u8 10), (.bool true)]) h_1) (sEq x1_1 (.int .u8 10) fun x32 =>
  sAnd x32 (fun k =>
  sOff x2 0 fun x34 =>
  sLd h_1 x34 fun x35 =>
  sBits .and .i64 x35 (.int .i64 8) fun x36 =>
  sNe x36 (.int .i64 0) fun x37 =>
  k x37) fun x38 =>
  sIf x38 (R (.tuple #[(.int .u8 13), (.bool true)]) h_1) (R (.tuple #[x1_1, (.bool true)]) h_1)))
def termios_Map_S (x0 x1 : Value) (h : Heap) (R : Value → Heap → Prop) : Prop :=
  sBox h x0 28 fun x2 h => 
  sOff x2 0 fun x6 =>
  sLd h x6 fun x7 =>
  sBits .and .i64 x7 (.int .i64 1) fun x8 =>
  sNe x8 (.int .i64 0) fun x9 =>
  sIf x9 (sBits .and .u8 x1 (.int .u8 127) fun x11 =>
  termios_Map_j1 R x2 x11 h) (termios_Map_j1 R x2 x1 h)
set_option maxRecDepth 100000 in
theorem termios_Map_runs {x0 x1 : Value} {h : Heap} {R : Value → Heap → Prop} (H : termios_Map_S x0 x1 h R) : termios_Map_c x0 x1 h R := by
 unfold termios_Map_S at H
 refine runs_of (b := ⟨#[x0, x1, ud, ud, ud, ud, ud, ud, ud, ud, ud, ud, ud, ud, ud, ud, ud, ud, ud, ud, ud, ud, ud, ud, ud, ud, ud, ud, ud, ud, ud, ud, ud, ud, ud, ud, ud, ud, ud, ud], []⟩) Try.call63 Try.func63 rfl (by kernel_rfl) (fun w0 HA => ?_)
 refine wp_seq (lwp_list ?_)
 refine ls_d (d := some 2) (by kernel_rfl) (by kernel_rfl) HA (d_box (by kernel_rfl) H) (fun x2 h w H HA => ?_)
 refine ls_assign (x := (.int .u8 0)) (by kernel_rfl) (by kernel_rfl) ?_
 refine ls_assign (x := (.bool false)) (by kernel_rfl) (by kernel_rfl) ?_
 refine ls_nil (then_normal ?_)
 refine fr_eq (b := ⟨#[x0, x1, x2, ud, (.int .u8 0), (.bool false), ud, ud, ud, ud, ud, ud, ud, ud, ud, ud, ud, ud, ud, ud, ud, ud, ud, ud, ud, ud, ud, ud, ud, ud, ud, ud, ud, ud, ud, ud, ud, ud, ud, ud], []⟩) (by kernel_rfl) ?_
 refine wp_seq ?_
 refine wp_seq (lwp_list ?_)
 refine ls_p (d := some 6) (by kernel_rfl) (by kernel_rfl) (p_off Try.underlying28 rfl (fun w => ⟨_, Try.sizeOf3 w⟩) rfl (by kernel_rfl) H) (fun x6 H => ?_)
 refine ls_y (d := some 7) (by kernel_rfl) (by kernel_rfl) HA (y_ld Try.isAgg3 (by kernel_rfl) H) (fun x7 H => ?_)
 refine ls_p (d := some 8) (by kernel_rfl) (by kernel_rfl) (p_bits (by decide) (by kernel_rfl) (by kernel_rfl) H) (fun x8 H => ?_)
 refine ls_p (d := some 9) (by kernel_rfl) (by kernel_rfl) (p_sNe (by kernel_rfl) (by kernel_rfl) H) (fun x9 H => ?_)
 refine ls_nil (then_normal ?_)
 refine fr_eq (b := ⟨#[x0, x1, x2, ud, (.int .u8 0), (.bool false), x6, x7, x8, x9, ud, ud, ud, ud, ud, ud, ud, ud, ud, ud, ud, ud, ud, ud, ud, ud, ud, ud, ud, ud, ud, ud, ud, ud, ud, ud, ud, ud, ud, ud], []⟩) (by kernel_rfl) ?_
 refine wp_join (fun a w => ∃ (D : Nat → Value) (x1_1 : Value) (h_1 : Heap), a = ⟨#[x0, x1_1, x2, ud, (.int .u8 0), (.bool false), x6, x7, x8, x9, (D 0), (D 1), ud, ud, ud, ud, ud, ud, ud, ud, ud, ud, ud, ud, ud, ud, ud, ud, ud, ud, ud, ud, ud, ud, ud, ud, ud, ud, ud, ud], []⟩ ∧ At w0 w h_1 ∧ termios_Map_j1 R x2 x1_1 h_1) ?_ ?_
 ·refine wp_if rfl H (fun H => ?_) (fun H => ?_)
  ·refine lwp_list ?_
   refine ls_move (x := x1) (by kernel_rfl) (by kernel_rfl) ?_
   refine ls_p (d := some 11) (by kernel_rfl) (by kernel_rfl) (p_bits (by decide) (by kernel_rfl) (by kernel_rfl) H) (fun x11 H => ?_)
   refine ls_assign (x := x11) (by kernel_rfl) (by kernel_rfl) ?_
   refine ls_nil ?_
   exact ⟨(fun i => ([x1, x11]).getD i ud), x11, h, by kernel_rfl, HA, H⟩
  ·refine wp_skip ?_
   exact ⟨(fun i => ([ud, ud]).getD i ud), x1, h, by kernel_rfl, HA, H⟩
 ·rintro _ w_1 ⟨D, x1_1, h_1, rfl, HA_1, H⟩
  unfold termios_Map_j1 at H
  refine then_normal ?_
  refine fr_eq (b := ⟨#[x0, x1_1, x2, ud, (.int .u8 0), (.bool false), x6, x7, x8, x9, (D 0), (D 1), ud, ud, ud, ud, ud, ud, ud, ud, ud, ud, ud, ud, ud, ud, ud, ud, ud, ud, ud, ud, ud, ud, ud, ud, ud, ud, ud, ud], []⟩) (by kernel_rfl) ?_
  refine wp_seq ?_
  refine wp_block ?_
  refine wp_seq (lwp_list ?_)
  refine ls_move (x := x1_1) (by kernel_rfl) (by kernel_rfl) ?_
  refine ls_p (d := some 14) (by kernel_rfl) (by kernel_rfl) (p_sEq (by kernel_rfl) (by kernel_rfl) H) (fun x14 H => ?_)
  refine ls_move (x := x14) (by kernel_rfl) (by kernel_rfl) ?_
  refine ls_and [(), (), (), (), ()] (fun K a w => ∃ (D_1 : Nat → Value) (x20 : Value), a = ⟨#[x0, x1_1, x2, ud, (.int .u8 0), (.bool false), x6, x7, x8, x9, (D 0), (D 1), ud, x1_1, x14, x14, (D_1 0), (D_1 1), (D_1 2), (D_1 3), x20, ud, ud, ud, ud, ud, ud, ud, ud, ud, ud, ud, ud, ud, ud, ud, ud, ud, ud, ud], []⟩ ∧ At w0 w h_1 ∧ K x20) H (fun hb_2 H => ?_) (fun hb_2 H => ?_) ?_
  ·refine ls_p (d := some 16) (by kernel_rfl) (by rw [hb_2]; kernel_rfl) (p_off Try.underlying28 rfl (fun w => ⟨_, Try.sizeOf3 w⟩) rfl (by kernel_rfl) H) (fun x16 H => ?_)
   refine ls_y (d := some 17) (by kernel_rfl) (by rw [hb_2]; kernel_rfl) HA_1 (y_ld Try.isAgg3 (by kernel_rfl) H) (fun x17 H => ?_)
   refine ls_p (d := some 18) (by kernel_rfl) (by rw [hb_2]; kernel_rfl) (p_bits (by decide) (by kernel_rfl) (by kernel_rfl) H) (fun x18 H => ?_)
   refine ls_fr (b := ⟨#[x0, x1_1, x2, ud, (.int .u8 0), (.bool false), x6, x7, x8, x9, (D 0), (D 1), ud, x1_1, x14, x14, x16, x17, x18, ud, ud, ud, ud, ud, ud, ud, ud, ud, ud, ud, ud, ud, ud, ud, ud, ud, ud, ud, ud, ud], []⟩) (by kernel_rfl) ?_
   refine ls_p (d := some 19) (by kernel_rfl) (by rw [hb_2]; kernel_rfl) (p_sNe (by kernel_rfl) (by kernel_rfl) H) (fun x19 H => ?_)
   refine ls_pick_t (x := x19) (by kernel_rfl) (by rw [hb_2]; kernel_rfl) (by kernel_rfl) ?_
   refine ls_nil (then_normal ?_)
   exact ⟨(fun i => ([x16, x17, x18, x19]).getD i ud), x19, by kernel_rfl, HA_1, H⟩
  ·refine ls_skip (d := some 16) (by kernel_rfl) (by rw [hb_2]; kernel_rfl) ?_
   refine ls_skip (d := some 17) (by kernel_rfl) (by rw [hb_2]; kernel_rfl) ?_
   refine ls_skip (d := some 18) (by kernel_rfl) (by rw [hb_2]; kernel_rfl) ?_
   refine ls_fr (b := ⟨#[x0, x1_1, x2, ud, (.int .u8 0), (.bool false), x6, x7, x8, x9, (D 0), (D 1), ud, x1_1, x14, x14, ud, ud, ud, ud, ud, ud, ud, ud, ud, ud, ud, ud, ud, ud, ud, ud, ud, ud, ud, ud, ud, ud, ud, ud], []⟩) (by kernel_rfl) ?_
   refine ls_skip (d := some 19) (by kernel_rfl) (by rw [hb_2]; kernel_rfl) ?_
   refine ls_pick_f (y := (.bool false)) (by kernel_rfl) (by rw [hb_2]; kernel_rfl) (by kernel_rfl) ?_
   refine ls_nil (then_normal ?_)
   exact ⟨(fun i => ([ud, ud, ud, ud]).getD i ud), (.bool false), by kernel_rfl, HA_1, H⟩
  ·rintro _ w_2 ⟨D_1, x20, rfl, HA_2, H⟩
   refine ls_assign (x := x20) (by kernel_rfl) (by kernel_rfl) ?_
   refine ls_nil (then_normal ?_)
   refine fr_eq (b := ⟨#[x0, x1_1, x2, ud, (.int .u8 0), (.bool false), x6, x7, x8, x9, (D 0), (D 1), x20, x1_1, x14, x14, (D_1 0), (D_1 1), (D_1 2), (D_1 3), x20, ud, ud, ud, ud, ud, ud, ud, ud, ud, ud, ud, ud, ud, ud, ud, ud, ud, ud, ud], []⟩) (by kernel_rfl) ?_
   refine wp_if rfl H (fun H => ?_) (fun H => ?_)
   ·refine wp_seq (lwp_list ?_)
    refine ls_assign (x := (.int .u8 0)) (by kernel_rfl) (by kernel_rfl) ?_
    refine ls_assign (x := (.bool false)) (by kernel_rfl) (by kernel_rfl) ?_
    refine ls_nil (then_normal ?_)
    refine fr_eq (b := ⟨#[x0, x1_1, x2, ud, (.int .u8 0), (.bool false), x6, x7, x8, x9, (D 0), (D 1), x20, x1_1, x14, x14, (D_1 0), (D_1 1), (D_1 2), (D_1 3), x20, ud, ud, ud, ud, ud, ud, ud, ud, ud, ud, ud, ud, ud, ud, ud, ud, ud, ud, ud], []⟩) (by kernel_rfl) ?_
    refine wp_ret ?_
    refine block_ret ?_
    refine then_ret ?_
    exact end2 (Try.results63) (by kernel_rfl) (by kernel_rfl) (by kernel_rfl) HA_2 H _ (.inr rfl)
   ·refine wp_seq (lwp_list ?_)
    refine ls_move (x := x1_1) (by kernel_rfl) (by kernel_rfl) ?_
    refine ls_p (d := some 23) (by kernel_rfl) (by kernel_rfl) (p_sEq (by kernel_rfl) (by kernel_rfl) H) (fun x23 H => ?_)
    refine ls_move (x := x23) (by kernel_rfl) (by kernel_rfl) ?_
    refine ls_and [(), (), (), (), ()] (fun K a w => ∃ (D_2 : Nat → Value) (x29 : Value), a = ⟨#[x0, x1_1, x2, ud, (.int .u8 0), (.bool false), x6, x7, x8, x9, (D 0), (D 1), x20, x1_1, x14, x14, (D_1 0), (D_1 1), (D_1 2), (D_1 3), x20, ud, x1_1, x23, x23, (D_2 0), (D_2 1), (D_2 2), (D_2 3), x29, ud, ud, ud, ud, ud, ud, ud, ud, ud, ud], []⟩ ∧ At w0 w h_1 ∧ K x29) H (fun hb_1 H => ?_) (fun hb_1 H => ?_) ?_
    ·refine ls_p (d := some 25) (by kernel_rfl) (by rw [hb_1]; kernel_rfl) (p_off Try.underlying28 rfl (fun w => ⟨_, Try.sizeOf3 w⟩) rfl (by kernel_rfl) H) (fun x25 H => ?_)
     refine ls_y (d := some 26) (by kernel_rfl) (by rw [hb_1]; kernel_rfl) HA_2 (y_ld Try.isAgg3 (by kernel_rfl) H) (fun x26 H => ?_)
     refine ls_p (d := some 27) (by kernel_rfl) (by rw [hb_1]; kernel_rfl) (p_bits (by decide) (by kernel_rfl) (by kernel_rfl) H) (fun x27 H => ?_)
     refine ls_fr (b := ⟨#[x0, x1_1, x2, ud, (.int .u8 0), (.bool false), x6, x7, x8, x9, (D 0), (D 1), x20, x1_1, x14, x14, (D_1 0), (D_1 1), (D_1 2), (D_1 3), x20, ud, x1_1, x23, x23, x25, x26, x27, ud, ud, ud, ud, ud, ud, ud, ud, ud, ud, ud, ud], []⟩) (by kernel_rfl) ?_
     refine ls_p (d := some 28) (by kernel_rfl) (by rw [hb_1]; kernel_rfl) (p_sNe (by kernel_rfl) (by kernel_rfl) H) (fun x28 H => ?_)
     refine ls_pick_t (x := x28) (by kernel_rfl) (by rw [hb_1]; kernel_rfl) (by kernel_rfl) ?_
     refine ls_nil (then_normal ?_)
     exact ⟨(fun i => ([x25, x26, x27, x28]).getD i ud), x28, by kernel_rfl, HA_2, H⟩
    ·refine ls_skip (d := some 25) (by kernel_rfl) (by rw [hb_1]; kernel_rfl) ?_
     refine ls_skip (d := some 26) (by kernel_rfl) (by rw [hb_1]; kernel_rfl) ?_
     refine ls_skip (d := some 27) (by kernel_rfl) (by rw [hb_1]; kernel_rfl) ?_
     refine ls_fr (b := ⟨#[x0, x1_1, x2, ud, (.int .u8 0), (.bool false), x6, x7, x8, x9, (D 0), (D 1), x20, x1_1, x14, x14, (D_1 0), (D_1 1), (D_1 2), (D_1 3), x20, ud, x1_1, x23, x23, ud, ud, ud, ud, ud, ud, ud, ud, ud, ud, ud, ud, ud, ud, ud], []⟩) (by kernel_rfl) ?_
     refine ls_skip (d := some 28) (by kernel_rfl) (by rw [hb_1]; kernel_rfl) ?_
     refine ls_pick_f (y := (.bool false)) (by kernel_rfl) (by rw [hb_1]; kernel_rfl) (by kernel_rfl) ?_
     refine ls_nil (then_normal ?_)
     exact ⟨(fun i => ([ud, ud, ud, ud]).getD i ud), (.bool false), by kernel_rfl, HA_2, H⟩
    ·rintro _ w_3 ⟨D_2, x29, rfl, HA_3, H⟩
     refine ls_assign (x := x29) (by kernel_rfl) (by kernel_rfl) ?_
     refine ls_nil (then_normal ?_)
     refine fr_eq (b := ⟨#[x0, x1_1, x2, ud, (.int .u8 0), (.bool false), x6, x7, x8, x9, (D 0), (D 1), x20, x1_1, x14, x14, (D_1 0), (D_1 1), (D_1 2), (D_1 3), x20, x29, x1_1, x23, x23, (D_2 0), (D_2 1), (D_2 2), (D_2 3), x29, ud, ud, ud, ud, ud, ud, ud, ud, ud, ud], []⟩) (by kernel_rfl) ?_
     refine wp_if rfl H (fun H => ?_) (fun H => ?_)
     ·refine wp_seq (lwp_list ?_)
      refine ls_assign (x := (.int .u8 10)) (by kernel_rfl) (by kernel_rfl) ?_
      refine ls_assign (x := (.bool true)) (by kernel_rfl) (by kernel_rfl) ?_
      refine ls_nil (then_normal ?_)
      refine fr_eq (b := ⟨#[x0, x1_1, x2, ud, (.int .u8 10), (.bool true), x6, x7, x8, x9, (D 0), (D 1), x20, x1_1, x14, x14, (D_1 0), (D_1 1), (D_1 2), (D_1 3), x20, x29, x1_1, x23, x23, (D_2 0), (D_2 1), (D_2 2), (D_2 3), x29, ud, ud, ud, ud, ud, ud, ud, ud, ud, ud], []⟩) (by kernel_rfl) ?_
      refine wp_ret ?_
      refine block_ret ?_
      refine then_ret ?_
      exact end2 (Try.results63) (by kernel_rfl) (by kernel_rfl) (by kernel_rfl) HA_3 H _ (.inr rfl)
     ·refine wp_seq (lwp_list ?_)
      refine ls_move (x := x1_1) (by kernel_rfl) (by kernel_rfl) ?_
      refine ls_p (d := some 32) (by kernel_rfl) (by kernel_rfl) (p_sEq (by kernel_rfl) (by kernel_rfl) H) (fun x32 H => ?_)
      refine ls_move (x := x32) (by kernel_rfl) (by kernel_rfl) ?_
      refine ls_and [(), (), (), (), ()] (fun K a w => ∃ (D_3 : Nat → Value) (x38 : Value), a = ⟨#[x0, x1_1, x2, ud, (.int .u8 0), (.bool false), x6, x7, x8, x9, (D 0), (D 1), x20, x1_1, x14, x14, (D_1 0), (D_1 1), (D_1 2), (D_1 3), x20, x29, x1_1, x23, x23, (D_2 0), (D_2 1), (D_2 2), (D_2 3), x29, ud, x1_1, x32, x32, (D_3 0), (D_3 1), (D_3 2), (D_3 3), x38, ud], []⟩ ∧ At w0 w h_1 ∧ K x38) H (fun hb H => ?_) (fun hb H => ?_) ?_
      ·refine ls_p (d := some 34) (by kernel_rfl) (by rw [hb]; kernel_rfl) (p_off Try.underlying28 rfl (fun w => ⟨_, Try.sizeOf3 w⟩) rfl (by kernel_rfl) H) (fun x34 H => ?_)
       refine ls_y (d := some 35) (by kernel_rfl) (by rw [hb]; kernel_rfl) HA_3 (y_ld Try.isAgg3 (by kernel_rfl) H) (fun x35 H => ?_)
       refine ls_p (d := some 36) (by kernel_rfl) (by rw [hb]; kernel_rfl) (p_bits (by decide) (by kernel_rfl) (by kernel_rfl) H) (fun x36 H => ?_)
       refine ls_fr (b := ⟨#[x0, x1_1, x2, ud, (.int .u8 0), (.bool false), x6, x7, x8, x9, (D 0), (D 1), x20, x1_1, x14, x14, (D_1 0), (D_1 1), (D_1 2), (D_1 3), x20, x29, x1_1, x23, x23, (D_2 0), (D_2 1), (D_2 2), (D_2 3), x29, ud, x1_1, x32, x32, x34, x35, x36, ud, ud, ud], []⟩) (by kernel_rfl) ?_
       refine ls_p (d := some 37) (by kernel_rfl) (by rw [hb]; kernel_rfl) (p_sNe (by kernel_rfl) (by kernel_rfl) H) (fun x37 H => ?_)
       refine ls_pick_t (x := x37) (by kernel_rfl) (by rw [hb]; kernel_rfl) (by kernel_rfl) ?_
       refine ls_nil (then_normal ?_)
       exact ⟨(fun i => ([x34, x35, x36, x37]).getD i ud), x37, by kernel_rfl, HA_3, H⟩
      ·refine ls_skip (d := some 34) (by kernel_rfl) (by rw [hb]; kernel_rfl) ?_
       refine ls_skip (d := some 35) (by kernel_rfl) (by rw [hb]; kernel_rfl) ?_
       refine ls_skip (d := some 36) (by kernel_rfl) (by rw [hb]; kernel_rfl) ?_
       refine ls_fr (b := ⟨#[x0, x1_1, x2, ud, (.int .u8 0), (.bool false), x6, x7, x8, x9, (D 0), (D 1), x20, x1_1, x14, x14, (D_1 0), (D_1 1), (D_1 2), (D_1 3), x20, x29, x1_1, x23, x23, (D_2 0), (D_2 1), (D_2 2), (D_2 3), x29, ud, x1_1, x32, x32, ud, ud, ud, ud, ud, ud], []⟩) (by kernel_rfl) ?_
       refine ls_skip (d := some 37) (by kernel_rfl) (by rw [hb]; kernel_rfl) ?_
       refine ls_pick_f (y := (.bool false)) (by kernel_rfl) (by rw [hb]; kernel_rfl) (by kernel_rfl) ?_
       refine ls_nil (then_normal ?_)
       exact ⟨(fun i => ([ud, ud, ud, ud]).getD i ud), (.bool false), by kernel_rfl, HA_3, H⟩
      ·rintro _ w_4 ⟨D_3, x38, rfl, HA_4, H⟩
       refine ls_assign (x := x38) (by kernel_rfl) (by kernel_rfl) ?_
       refine ls_nil (then_normal ?_)
       refine fr_eq (b := ⟨#[x0, x1_1, x2, ud, (.int .u8 0), (.bool false), x6, x7, x8, x9, (D 0), (D 1), x20, x1_1, x14, x14, (D_1 0), (D_1 1), (D_1 2), (D_1 3), x20, x29, x1_1, x23, x23, (D_2 0), (D_2 1), (D_2 2), (D_2 3), x29, x38, x1_1, x32, x32, (D_3 0), (D_3 1), (D_3 2), (D_3 3), x38, ud], []⟩) (by kernel_rfl) ?_
       refine wp_if rfl H (fun H => ?_) (fun H => ?_)
       ·refine wp_seq (lwp_list ?_)
        refine ls_assign (x := (.int .u8 13)) (by kernel_rfl) (by kernel_rfl) ?_
        refine ls_assign (x := (.bool true)) (by kernel_rfl) (by kernel_rfl) ?_
        refine ls_nil (then_normal ?_)
        refine fr_eq (b := ⟨#[x0, x1_1, x2, ud, (.int .u8 13), (.bool true), x6, x7, x8, x9, (D 0), (D 1), x20, x1_1, x14, x14, (D_1 0), (D_1 1), (D_1 2), (D_1 3), x20, x29, x1_1, x23, x23, (D_2 0), (D_2 1), (D_2 2), (D_2 3), x29, x38, x1_1, x32, x32, (D_3 0), (D_3 1), (D_3 2), (D_3 3), x38, ud], []⟩) (by kernel_rfl) ?_
        refine wp_ret ?_
        refine block_ret ?_
        refine then_ret ?_
        exact end2 (Try.results63) (by kernel_rfl) (by kernel_rfl) (by kernel_rfl) HA_4 H _ (.inr rfl)
       ·refine wp_skip ?_
        refine block_normal ?_
        refine then_normal ?_
        refine fr_eq (b := ⟨#[x0, x1_1, x2, ud, (.int .u8 0), (.bool false), x6, x7, x8, x9, (D 0), (D 1), x20, x1_1, x14, x14, (D_1 0), (D_1 1), (D_1 2), (D_1 3), x20, x29, x1_1, x23, x23, (D_2 0), (D_2 1), (D_2 2), (D_2 3), x29, x38, x1_1, x32, x32, (D_3 0), (D_3 1), (D_3 2), (D_3 3), x38, ud], []⟩) (by kernel_rfl) ?_
        refine wp_seq (lwp_list ?_)
        refine ls_move (x := x1_1) (by kernel_rfl) (by kernel_rfl) ?_
        refine ls_assign (x := x1_1) (by kernel_rfl) (by kernel_rfl) ?_
        refine ls_assign (x := (.bool true)) (by kernel_rfl) (by kernel_rfl) ?_
        refine ls_nil (then_normal ?_)
        refine fr_eq (b := ⟨#[x0, x1_1, x2, ud, x1_1, (.bool true), x6, x7, x8, x9, (D 0), (D 1), x20, x1_1, x14, x14, (D_1 0), (D_1 1), (D_1 2), (D_1 3), x20, x29, x1_1, x23, x23, (D_2 0), (D_2 1), (D_2 2), (D_2 3), x29, x38, x1_1, x32, x32, (D_3 0), (D_3 1), (D_3 2), (D_3 3), x38, x1_1], []⟩) (by kernel_rfl) ?_
        refine wp_ret ?_
        exact end2 (Try.results63) (by kernel_rfl) (by kernel_rfl) (by kernel_rfl) HA_4 H _ (.inr rfl)

end Go.Proofs.Ytlcklnbgknhhkaa

end

section
/- The shallow reading of one function, and that the function does it. Written by a program. -/
set_option linter.unusedVariables false
namespace Go.Proofs.Ytlcklnbgknhhkaa
open Go Go.HW

def betonyref17_Has_S (x0 x1 : Value) (h : Heap) (R : Value → Heap → Prop) : Prop :=
  sBits .and .i64 x0 x1 fun x7 =>
  sNe x7 (.int .i64 0) fun x8 =>
  R x8 h
set_option maxRecDepth 100000 in
theorem betonyref17_Has_runs {x0 x1 : Value} {h : Heap} {R : Value → Heap → Prop} (H : betonyref17_Has_S x0 x1 h R) : betonyref17_Has_c x0 x1 h R := by
 unfold betonyref17_Has_S at H
 refine runs_of (b := ⟨#[x0, x1, ud, ud, ud, ud, ud, ud, ud], []⟩) Try.call68 Try.func68 rfl (by kernel_rfl) (fun w0 HA => ?_)
 refine wp_seq (lwp_list ?_)
 refine ls_assign (x := (.bool false)) (by kernel_rfl) (by kernel_rfl) ?_
 refine ls_nil (then_normal ?_)
 refine fr_eq (b := ⟨#[x0, x1, ud, ud, (.bool false), ud, ud, ud, ud], []⟩) (by kernel_rfl) ?_
 refine wp_seq (lwp_list ?_)
 refine ls_move (x := x0) (by kernel_rfl) (by kernel_rfl) ?_
 refine ls_move (x := x1) (by kernel_rfl) (by kernel_rfl) ?_
 refine ls_p (d := some 7) (by kernel_rfl) (by kernel_rfl) (p_bits (by decide) (by kernel_rfl) (by kernel_rfl) H) (fun x7 H => ?_)
 refine ls_p (d := some 8) (by kernel_rfl) (by kernel_rfl) (p_sNe (by kernel_rfl) (by kernel_rfl) H) (fun x8 H => ?_)
 refine ls_assign (x := x8) (by kernel_rfl) (by kernel_rfl) ?_
 refine ls_nil (then_normal ?_)
 refine fr_eq (b := ⟨#[x0, x1, ud, ud, x8, x0, x1, x7, x8], []⟩) (by kernel_rfl) ?_
 refine wp_ret ?_
 exact end1 (Try.results68) (by kernel_rfl) (by kernel_rfl) HA H _ (.inr rfl)

end Go.Proofs.Ytlcklnbgknhhkaa

end

section
/- The shallow reading of one function, and that the function does it. Written by a program. -/
set_option linter.unusedVariables false
namespace Go.Proofs.Ytlcklnbgknhhkaa
open Go Go.HW

def betonyref17_Map_j1 (R : Value → Heap → Prop) (x2 x5 : Value) (h_2 : Heap) : Prop :=
  sEq x5 (.int .i64 13) fun x14 =>
  sAndH x14 h_2 (fun k_2 =>
  sOff x2 0 fun x16 =>
  sLd h_2 x16 fun x17 =>
  betonyref17_Has_c x17 (.int .i64 2) h_2 fun x18 h_8 => 
  k_2 x18 h_8) fun x19 h_3 =>
  sIf x19 (R (.int .i64 (-1)) h_3) (sEq x5 (.int .i64 13) fun x21 =>
  sAndH x21 h_3 (fun k_1 =>
  sOff x2 0 fun x23 =>
  sLd h_3 x23 fun x24 =>
  betonyref17_Has_c x24 (.int .i64 4) h_3 fun x25 h_7 => 
  k_1 x25 h_7) fun x26 h_4 =>
  sIf x26 (R (.int .i64 10) h_4) (sEq x5 (.int .i64 10) fun x28 =>
  sAndH x28 h_4 (fun k =>
  sOff x2 0 fun x30 =>
  sLd h_4 x30 fun x31 =>
  betonyref17_Has_c x31 (.int .i64 8) h_4 fun x32 h_6 => 
  k x32 h_6) fun x33 h_5 =>
  sIf x33 (R (.int .i64 13) h_5) (R x5 h_5)))
def betonyref17_Map_S (x0 x1 : Value) (h : Heap) (R : Value → Heap → Prop) : Prop :=
  sBox h x0 28 fun x2 h => 
  sConv .i64 x1 fun x7 =>
  sOff x2 0 fun x8 =>
  sLd h x8 fun x9 =>
  betonyref17_Has_c x9 (.int .i64 1) h fun x10 h_1 => 
  sIf x10 (sRem .i64 x7 (.int .i64 128) fun x12 =>
  betonyref17_Map_j1 R x2 x12 h_1) (betonyref17_Map_j1 R x2 x7 h_1)
set_option maxRecDepth 100000 in
theorem betonyref17_Map_runs {x0 x1 : Value} {h : Heap} {R : Value → Heap → Prop} (H : betonyref17_Map_S x0 x1 h R) : betonyref17_Map_c x0 x1 h R := by
 unfold betonyref17_Map_S at H
 refine runs_of (b := ⟨#[x0, x1, ud, ud, ud, ud, ud, ud, ud, ud, ud, ud, ud, ud, ud, ud, ud, ud, ud, ud, ud, ud, ud, ud, ud, ud, ud, ud, ud, ud, ud, ud, ud, ud, ud], []⟩) Try.call46 Try.func46 rfl (by kernel_rfl) (fun w0 HA => ?_)
 refine wp_seq (lwp_list ?_)
 refine ls_d (d := some 2) (by kernel_rfl) (by kernel_rfl) HA (d_box (by kernel_rfl) H) (fun x2 h w H HA => ?_)
 refine ls_assign (x := (.int .i64 0)) (by kernel_rfl) (by kernel_rfl) ?_
 refine ls_nil (then_normal ?_)
 refine fr_eq (b := ⟨#[x0, x1, x2, ud, (.int .i64 0), ud, ud, ud, ud, ud, ud, ud, ud, ud, ud, ud, ud, ud, ud, ud, ud, ud, ud, ud, ud, ud, ud, ud, ud, ud, ud, ud, ud, ud, ud], []⟩) (by kernel_rfl) ?_
 refine wp_seq (lwp_list ?_)
 refine ls_move (x := x1) (by kernel_rfl) (by kernel_rfl) ?_
 refine ls_p (d := some 7) (by kernel_rfl) (by kernel_rfl) (p_conv Try.underlying5 Try.underlying3 (by kernel_rfl) H) (fun x7 H => ?_)
 refine ls_assign (x := x7) (by kernel_rfl) (by kernel_rfl) ?_
 refine ls_nil (then_normal ?_)
 refine fr_eq (b := ⟨#[x0, x1, x2, ud, (.int .i64 0), x7, x1, x7, ud, ud, ud, ud, ud, ud, ud, ud, ud, ud, ud, ud, ud, ud, ud, ud, ud, ud, ud, ud, ud, ud, ud, ud, ud, ud, ud], []⟩) (by kernel_rfl) ?_
 refine wp_seq ?_
 refine wp_seq (lwp_list ?_)
 refine ls_p (d := some 8) (by kernel_rfl) (by kernel_rfl) (p_off Try.underlying28 rfl (fun w => ⟨_, Try.sizeOf3 w⟩) rfl (by kernel_rfl) H) (fun x8 H => ?_)
 refine ls_y (d := some 9) (by kernel_rfl) (by kernel_rfl) HA (y_ld Try.isAgg3 (by kernel_rfl) H) (fun x9 H => ?_)
 refine ls_d (d := some 10) (by kernel_rfl) (by kernel_rfl) HA (d_call (by kernel_rfl) (by kernel_rfl) H) (fun x10 h_1 w_1 H HA_1 => ?_)
 refine ls_nil (then_normal ?_)
 refine fr_eq (b := ⟨#[x0, x1, x2, ud, (.int .i64 0), x7, x1, x7, x8, x9, x10, ud, ud, ud, ud, ud, ud, ud, ud, ud, ud, ud, ud, ud, ud, ud, ud, ud, ud, ud, ud, ud, ud, ud, ud], []⟩) (by kernel_rfl) ?_
 refine wp_join (fun a w => ∃ (D : Nat → Value) (x5 : Value) (h_2 : Heap), a = ⟨#[x0, x1, x2, ud, (.int .i64 0), x5, x1, x7, x8, x9, x10, (D 0), (D 1), ud, ud, ud, ud, ud, ud, ud, ud, ud, ud, ud, ud, ud, ud, ud, ud, ud, ud, ud, ud, ud, ud], []⟩ ∧ At w0 w h_2 ∧ betonyref17_Map_j1 R x2 x5 h_2) ?_ ?_
 ·refine wp_if rfl H (fun H => ?_) (fun H => ?_)
  ·refine lwp_list ?_
   refine ls_move (x := x7) (by kernel_rfl) (by kernel_rfl) ?_
   refine ls_p (d := some 12) (by kernel_rfl) (by kernel_rfl) (p_rem (by kernel_rfl) (by kernel_rfl) H) (fun x12 H => ?_)
   refine ls_assign (x := x12) (by kernel_rfl) (by kernel_rfl) ?_
   refine ls_nil ?_
   exact ⟨(fun i => ([x7, x12]).getD i ud), x12, h_1, by kernel_rfl, HA_1, H⟩
  ·refine wp_skip ?_
   exact ⟨(fun i => ([ud, ud]).getD i ud), x7, h_1, by kernel_rfl, HA_1, H⟩
 ·rintro _ w_2 ⟨D, x5, h_2, rfl, HA_2, H⟩
  unfold betonyref17_Map_j1 at H
  refine then_normal ?_
  refine fr_eq (b := ⟨#[x0, x1, x2, ud, (.int .i64 0), x5, x1, x7, x8, x9, x10, (D 0), (D 1), ud, ud, ud, ud, ud, ud, ud, ud, ud, ud, ud, ud, ud, ud, ud, ud, ud, ud, ud, ud, ud, ud], []⟩) (by kernel_rfl) ?_
  refine wp_seq ?_
  refine wp_seq (lwp_list ?_)
  refine ls_move (x := x5) (by kernel_rfl) (by kernel_rfl) ?_
  refine ls_p (d := some 14) (by kernel_rfl) (by kernel_rfl) (p_sEq (by kernel_rfl) (by kernel_rfl) H) (fun x14 H => ?_)
  refine ls_move (x := x14) (by kernel_rfl) (by kernel_rfl) ?_
  refine ls_andh [(), (), (), ()] (fun K a w => ∃ (D_1 : Nat → Value) (x19 : Value) (h_3 : Heap), a = ⟨#[x0, x1, x2, ud, (.int .i64 0), x5, x1, x7, x8, x9, x10, (D 0), (D 1), x5, x14, x14, (D_1 0), (D_1 1), (D_1 2), x19, ud, ud, ud, ud, ud, ud, ud, ud, ud, ud, ud, ud, ud, ud, ud], []⟩ ∧ At w0 w h_3 ∧ K x19 h_3) H (fun hb_2 H => ?_) (fun hb_2 H => ?_) ?_
  ·refine ls_p (d := some 16) (by kernel_rfl) (by rw [hb_2]; kernel_rfl) (p_off Try.underlying28 rfl (fun w => ⟨_, Try.sizeOf3 w⟩) rfl (by kernel_rfl) H) (fun x16 H => ?_)
   refine ls_y (d := some 17) (by kernel_rfl) (by rw [hb_2]; kernel_rfl) HA_2 (y_ld Try.isAgg3 (by kernel_rfl) H) (fun x17 H => ?_)
   refine ls_d (d := some 18) (by kernel_rfl) (by rw [hb_2]; kernel_rfl) HA_2 (d_call (by kernel_rfl) (by kernel_rfl) H) (fun x18 h_8 w_8 H HA_8 => ?_)
   refine ls_fr (b := ⟨#[x0, x1, x2, ud, (.int .i64 0), x5, x1, x7, x8, x9, x10, (D 0), (D 1), x5, x14, x14, x16, x17, x18, ud, ud, ud, ud, ud, ud, ud, ud, ud, ud, ud, ud, ud, ud, ud, ud], []⟩) (by kernel_rfl) ?_
   refine ls_pick_t (x := x18) (by kernel_rfl) (by rw [hb_2]; kernel_rfl) (by kernel_rfl) ?_
   refine ls_nil (then_normal ?_)
   exact ⟨(fun i => ([x16, x17, x18]).getD i ud), x18, h_8, by kernel_rfl, HA_8, H⟩
  ·refine ls_skip (d := some 16) (by kernel_rfl) (by rw [hb_2]; kernel_rfl) ?_
   refine ls_skip (d := some 17) (by kernel_rfl) (by rw [hb_2]; kernel_rfl) ?_
   refine ls_skip (d := some 18) (by kernel_rfl) (by rw [hb_2]; kernel_rfl) ?_
   refine ls_fr (b := ⟨#[x0, x1, x2, ud, (.int .i64 0), x5, x1, x7, x8, x9, x10, (D 0), (D 1), x5, x14, x14, ud, ud, ud, ud, ud, ud, ud, ud, ud, ud, ud, ud, ud, ud, ud, ud, ud, ud, ud], []⟩) (by kernel_rfl) ?_
   refine ls_pick_f (y := (.bool false)) (by kernel_rfl) (by rw [hb_2]; kernel_rfl) (by kernel_rfl) ?_
   refine ls_nil (then_normal ?_)
   exact ⟨(fun i => ([ud, ud, ud]).getD i ud), (.bool false), h_2, by kernel_rfl, HA_2, H⟩
  ·rintro _ w_3 ⟨D_1, x19, h_3, rfl, HA_3, H⟩
   refine ls_nil (then_normal ?_)
   refine fr_eq (b := ⟨#[x0, x1, x2, ud, (.int .i64 0), x5, x1, x7, x8, x9, x10, (D 0), (D 1), x5, x14, x14, (D_1 0), (D_1 1), (D_1 2), x19, ud, ud, ud, ud, ud, ud, ud, ud, ud, ud, ud, ud, ud, ud, ud], []⟩) (by kernel_rfl) ?_
   refine wp_if rfl H (fun H => ?_) (fun H => ?_)
   ·refine wp_seq (lwp_list ?_)
    refine ls_assign (x := (.int .i64 (-1))) (by kernel_rfl) (by kernel_rfl) ?_
    refine ls_nil (then_normal ?_)
    refine fr_eq (b := ⟨#[x0, x1, x2, ud, (.int .i64 (-1)), x5, x1, x7, x8, x9, x10, (D 0), (D 1), x5, x14, x14, (D_1 0), (D_1 1), (D_1 2), x19, ud, ud, ud, ud, ud, ud, ud, ud, ud, ud, ud, ud, ud, ud, ud], []⟩) (by kernel_rfl) ?_
    refine wp_ret ?_
    refine then_ret ?_
    exact end1 (Try.results46) (by kernel_rfl) (by kernel_rfl) HA_3 H _ (.inr rfl)
   ·refine wp_skip ?_
    refine then_normal ?_
    refine fr_eq (b := ⟨#[x0, x1, x2, ud, (.int .i64 0), x5, x1, x7, x8, x9, x10, (D 0), (D 1), x5, x14, x14, (D_1 0), (D_1 1), (D_1 2), x19, ud, ud, ud, ud, ud, ud, ud, ud, ud, ud, ud, ud, ud, ud, ud], []⟩) (by kernel_rfl) ?_
    refine wp_seq ?_
    refine wp_seq (lwp_list ?_)
    refine ls_move (x := x5) (by kernel_rfl) (by kernel_rfl) ?_
    refine ls_p (d := some 21) (by kernel_rfl) (by kernel_rfl) (p_sEq (by kernel_rfl) (by kernel_rfl) H) (fun x21 H => ?_)
    refine ls_move (x := x21) (by kernel_rfl) (by kernel_rfl) ?_
    refine ls_andh [(), (), (), ()] (fun K a w => ∃ (D_2 : Nat → Value) (x26 : Value) (h_4 : Heap), a = ⟨#[x0, x1, x2, ud, (.int .i64 0), x5, x1, x7, x8, x9, x10, (D 0), (D 1), x5, x14, x14, (D_1 0), (D_1 1), (D_1 2), x19, x5, x21, x21, (D_2 0), (D_2 1), (D_2 2), x26, ud, ud, ud, ud, ud, ud, ud, ud], []⟩ ∧ At w0 w h_4 ∧ K x26 h_4) H (fun hb_1 H => ?_) (fun hb_1 H => ?_) ?_
    ·refine ls_p (d := some 23) (by kernel_rfl) (by rw [hb_1]; kernel_rfl) (p_off Try.underlying28 rfl (fun w => ⟨_, Try.sizeOf3 w⟩) rfl (by kernel_rfl) H) (fun x23 H => ?_)
     refine ls_y (d := some 24) (by kernel_rfl) (by rw [hb_1]; kernel_rfl) HA_3 (y_ld Try.isAgg3 (by kernel_rfl) H) (fun x24 H => ?_)
     refine ls_d (d := some 25) (by kernel_rfl) (by rw [hb_1]; kernel_rfl) HA_3 (d_call (by kernel_rfl) (by kernel_rfl) H) (fun x25 h_7 w_7 H HA_7 => ?_)
     refine ls_fr (b := ⟨#[x0, x1, x2, ud, (.int .i64 0), x5, x1, x7, x8, x9, x10, (D 0), (D 1), x5, x14, x14, (D_1 0), (D_1 1), (D_1 2), x19, x5, x21, x21, x23, x24, x25, ud, ud, ud, ud, ud, ud, ud, ud, ud], []⟩) (by kernel_rfl) ?_
     refine ls_pick_t (x := x25) (by kernel_rfl) (by rw [hb_1]; kernel_rfl) (by kernel_rfl) ?_
     refine ls_nil (then_normal ?_)
     exact ⟨(fun i => ([x23, x24, x25]).getD i ud), x25, h_7, by kernel_rfl, HA_7, H⟩
    ·refine ls_skip (d := some 23) (by kernel_rfl) (by rw [hb_1]; kernel_rfl) ?_
     refine ls_skip (d := some 24) (by kernel_rfl) (by rw [hb_1]; kernel_rfl) ?_
     refine ls_skip (d := some 25) (by kernel_rfl) (by rw [hb_1]; kernel_rfl) ?_
     refine ls_fr (b := ⟨#[x0, x1, x2, ud, (.int .i64 0), x5, x1, x7, x8, x9, x10, (D 0), (D 1), x5, x14, x14, (D_1 0), (D_1 1), (D_1 2), x19, x5, x21, x21, ud, ud, ud, ud, ud, ud, ud, ud, ud, ud, ud, ud], []⟩) (by kernel_rfl) ?_
     refine ls_pick_f (y := (.bool false)) (by kernel_rfl) (by rw [hb_1]; kernel_rfl) (by kernel_rfl) ?_
     refine ls_nil (then_normal ?_)
     exact ⟨(fun i => ([ud, ud, ud]).getD i ud), (.bool false), h_3, by kernel_rfl, HA_3, H⟩
    ·rintro _ w_4 ⟨D_2, x26, h_4, rfl, HA_4, H⟩
     refine ls_nil (then_normal ?_)
     refine fr_eq (b := ⟨#[x0, x1, x2, ud, (.int .i64 0), x5, x1, x7, x8, x9, x10, (D 0), (D 1), x5, x14, x14, (D_1 0), (D_1 1), (D_1 2), x19, x5, x21, x21, (D_2 0), (D_2 1), (D_2 2), x26, ud, ud, ud, ud, ud, ud, ud, ud], []⟩) (by kernel_rfl) ?_
     refine wp_if rfl H (fun H => ?_) (fun H => ?_)
     ·refine wp_seq (lwp_list ?_)
      refine ls_assign (x := (.int .i64 10)) (by kernel_rfl) (by kernel_rfl) ?_
      refine ls_nil (then_normal ?_)
      refine fr_eq (b := ⟨#[x0, x1, x2, ud, (.int .i64 10), x5, x1, x7, x8, x9, x10, (D 0), (D 1), x5, x14, x14, (D_1 0), (D_1 1), (D_1 2), x19, x5, x21, x21, (D_2 0), (D_2 1), (D_2 2), x26, ud, ud, ud, ud, ud, ud, ud, ud], []⟩) (by kernel_rfl) ?_
      refine wp_ret ?_
      refine then_ret ?_
      exact end1 (Try.results46) (by kernel_rfl) (by kernel_rfl) HA_4 H _ (.inr rfl)
     ·refine wp_skip ?_
      refine then_normal ?_
      refine fr_eq (b := ⟨#[x0, x1, x2, ud, (.int .i64 0), x5, x1, x7, x8, x9, x10, (D 0), (D 1), x5, x14, x14, (D_1 0), (D_1 1), (D_1 2), x19, x5, x21, x21, (D_2 0), (D_2 1), (D_2 2), x26, ud, ud, ud, ud, ud, ud, ud, ud], []⟩) (by kernel_rfl) ?_
      refine wp_seq ?_
      refine wp_seq (lwp_list ?_)
      refine ls_move (x := x5) (by kernel_rfl) (by kernel_rfl) ?_
      refine ls_p (d := some 28) (by kernel_rfl) (by kernel_rfl) (p_sEq (by kernel_rfl) (by kernel_rfl) H) (fun x28 H => ?_)
      refine ls_move (x := x28) (by kernel_rfl) (by kernel_rfl) ?_
      refine ls_andh [(), (), (), ()] (fun K a w => ∃ (D_3 : Nat → Value) (x33 : Value) (h_5 : Heap), a = ⟨#[x0, x1, x2, ud, (.int .i64 0), x5, x1, x7, x8, x9, x10, (D 0), (D 1), x5, x14, x14, (D_1 0), (D_1 1), (D_1 2), x19, x5, x21, x21, (D_2 0), (D_2 1), (D_2 2), x26, x5, x28, x28, (D_3 0), (D_3 1), (D_3 2), x33, ud], []⟩ ∧ At w0 w h_5 ∧ K x33 h_5) H (fun hb H => ?_) (fun hb H => ?_) ?_
      ·refine ls_p (d := some 30) (by kernel_rfl) (by rw [hb]; kernel_rfl) (p_off Try.underlying28 rfl (fun w => ⟨_, Try.sizeOf3 w⟩) rfl (by kernel_rfl) H) (fun x30 H => ?_)
       refine ls_y (d := some 31) (by kernel_rfl) (by rw [hb]; kernel_rfl) HA_4 (y_ld Try.isAgg3 (by kernel_rfl) H) (fun x31 H => ?_)
       refine ls_d (d := some 32) (by kernel_rfl) (by rw [hb]; kernel_rfl) HA_4 (d_call (by kernel_rfl) (by kernel_rfl) H) (fun x32 h_6 w_6 H HA_6 => ?_)
       refine ls_fr (b := ⟨#[x0, x1, x2, ud, (.int .i64 0), x5, x1, x7, x8, x9, x10, (D 0), (D 1), x5, x14, x14, (D_1 0), (D_1 1), (D_1 2), x19, x5, x21, x21, (D_2 0), (D_2 1), (D_2 2), x26, x5, x28, x28, x30, x31, x32, ud, ud], []⟩) (by kernel_rfl) ?_
       refine ls_pick_t (x := x32) (by kernel_rfl) (by rw [hb]; kernel_rfl) (by kernel_rfl) ?_
       refine ls_nil (then_normal ?_)
       exact ⟨(fun i => ([x30, x31, x32]).getD i ud), x32, h_6, by kernel_rfl, HA_6, H⟩
      ·refine ls_skip (d := some 30) (by kernel_rfl) (by rw [hb]; kernel_rfl) ?_
       refine ls_skip (d := some 31) (by kernel_rfl) (by rw [hb]; kernel_rfl) ?_
       refine ls_skip (d := some 32) (by kernel_rfl) (by rw [hb]; kernel_rfl) ?_
       refine ls_fr (b := ⟨#[x0, x1, x2, ud, (.int .i64 0), x5, x1, x7, x8, x9, x10, (D 0), (D 1), x5, x14, x14, (D_1 0), (D_1 1), (D_1 2), x19, x5, x21, x21, (D_2 0), (D_2 1), (D_2 2), x26, x5, x28, x28, ud, ud, ud, ud, ud], []⟩) (by kernel_rfl) ?_
       refine ls_pick_f (y := (.bool false)) (by kernel_rfl) (by rw [hb]; kernel_rfl) (by kernel_rfl) ?_
       refine ls_nil (then_normal ?_)
       exact ⟨(fun i => ([ud, ud, ud]).getD i ud), (.bool false), h_4, by kernel_rfl, HA_4, H⟩
      ·rintro _ w_5 ⟨D_3, x33, h_5, rfl, HA_5, H⟩
       refine ls_nil (then_normal ?_)
       refine fr_eq (b := ⟨#[x0, x1, x2, ud, (.int .i64 0), x5, x1, x7, x8, x9, x10, (D 0), (D 1), x5, x14, x14, (D_1 0), (D_1 1), (D_1 2), x19, x5, x21, x21, (D_2 0), (D_2 1), (D_2 2), x26, x5, x28, x28, (D_3 0), (D_3 1), (D_3 2), x33, ud], []⟩) (by kernel_rfl) ?_
       refine wp_if rfl H (fun H => ?_) (fun H => ?_)
       ·refine wp_seq (lwp_list ?_)
        refine ls_assign (x := (.int .i64 13)) (by kernel_rfl) (by kernel_rfl) ?_
        refine ls_nil (then_normal ?_)
        refine fr_eq (b := ⟨#[x0, x1, x2, ud, (.int .i64 13), x5, x1, x7, x8, x9, x10, (D 0), (D 1), x5, x14, x14, (D_1 0), (D_1 1), (D_1 2), x19, x5, x21, x21, (D_2 0), (D_2 1), (D_2 2), x26, x5, x28, x28, (D_3 0), (D_3 1), (D_3 2), x33, ud], []⟩) (by kernel_rfl) ?_
        refine wp_ret ?_
        refine then_ret ?_
        exact end1 (Try.results46) (by kernel_rfl) (by kernel_rfl) HA_5 H _ (.inr rfl)
       ·refine wp_skip ?_
        refine then_normal ?_
        refine fr_eq (b := ⟨#[x0, x1, x2, ud, (.int .i64 0), x5, x1, x7, x8, x9, x10, (D 0), (D 1), x5, x14, x14, (D_1 0), (D_1 1), (D_1 2), x19, x5, x21, x21, (D_2 0), (D_2 1), (D_2 2), x26, x5, x28, x28, (D_3 0), (D_3 1), (D_3 2), x33, ud], []⟩) (by kernel_rfl) ?_
        refine wp_seq (lwp_list ?_)
        refine ls_move (x := x5) (by kernel_rfl) (by kernel_rfl) ?_
        refine ls_assign (x := x5) (by kernel_rfl) (by kernel_rfl) ?_
        refine ls_nil (then_normal ?_)
        refine fr_eq (b := ⟨#[x0, x1, x2, ud, x5, x5, x1, x7, x8, x9, x10, (D 0), (D 1), x5, x14, x14, (D_1 0), (D_1 1), (D_1 2), x19, x5, x21, x21, (D_2 0), (D_2 1), (D_2 2), x26, x5, x28, x28, (D_3 0), (D_3 1), (D_3 2), x33, x5], []⟩) (by kernel_rfl) ?_
        refine wp_ret ?_
        exact end1 (Try.results46) (by kernel_rfl) (by kernel_rfl) HA_5 H _ (.inr rfl)

end Go.Proofs.Ytlcklnbgknhhkaa

end

section
/- The shallow reading of one function, and that the function does it. Written by a program. -/
set_option linter.unusedVariables false
namespace Go.Proofs.Ytlcklnbgknhhkaa
open Go Go.HW

def betonyref17_Is_S (x0 x1 x2 : Value) (h : Heap) (R : Value → Heap → Prop) : Prop :=
  sBox h x0 28 fun x3 h => 
  sGe x1 (.int .i64 0) fun x8 =>
  sAnd x8 (fun k_2 =>
  sLt x1 (.int .i64 12) fun x11 =>
  k_2 x11) fun x12 =>
  sAnd x12 (fun k_1 =>
  sNe x2 (.int .i64 0) fun x15 =>
  k_1 x15) fun x16 =>
  sAnd x16 (fun k =>
  sOff x3 3 fun x19 =>
  sIxA x19 x1 12 1 fun x20 =>
  sLd h x20 fun x21 =>
  sEq x21 x2 fun x23 =>
  k x23) fun x24 =>
  R x24 h
set_option maxRecDepth 100000 in
theorem betonyref17_Is_runs {x0 x1 x2 : Value} {h : Heap} {R : Value → Heap → Prop} (H : betonyref17_Is_S x0 x1 x2 h R) : betonyref17_Is_c x0 x1 x2 h R := by
 unfold betonyref17_Is_S at H
 refine runs_of (b := ⟨#[x0, x1, x2, ud, ud, ud, ud, ud, ud, ud, ud, ud, ud, ud, ud, ud, ud, ud, ud, ud, ud, ud, ud, ud, ud], []⟩) Try.call70 Try.func70 rfl (by kernel_rfl) (fun w0 HA => ?_)
 refine wp_seq (lwp_list ?_)
 refine ls_d (d := some 3) (by kernel_rfl) (by kernel_rfl) HA (d_box (by kernel_rfl) H) (fun x3 h w H HA => ?_)
 refine ls_assign (x := (.bool false)) (by kernel_rfl) (by kernel_rfl) ?_
 refine ls_nil (then_normal ?_)
 refine fr_eq (b := ⟨#[x0, x1, x2, x3, ud, ud, (.bool false), ud, ud, ud, ud, ud, ud, ud, ud, ud, ud, ud, ud, ud, ud, ud, ud, ud, ud], []⟩) (by kernel_rfl) ?_
 refine wp_seq (lwp_list ?_)
 refine ls_move (x := x1) (by kernel_rfl) (by kernel_rfl) ?_
 refine ls_p (d := some 8) (by kernel_rfl) (by kernel_rfl) (p_sGe (by kernel_rfl) (by kernel_rfl) H) (fun x8 H => ?_)
 refine ls_move (x := x8) (by kernel_rfl) (by kernel_rfl) ?_
 refine ls_and [(), (), ()] (fun K a w => ∃ (D : Nat → Value) (x12 : Value), a = ⟨#[x0, x1, x2, x3, ud, ud, (.bool false), x1, x8, x8, (D 0), (D 1), x12, ud, ud, ud, ud, ud, ud, ud, ud, ud, ud, ud, ud], []⟩ ∧ At w0 w h ∧ K x12) H (fun hb_2 H => ?_) (fun hb_2 H => ?_) ?_
 ·refine ls_move (x := x1) (by rw [hb_2]; kernel_rfl) (by kernel_rfl) ?_
  refine ls_p (d := some 11) (by kernel_rfl) (by rw [hb_2]; kernel_rfl) (p_sLt (by kernel_rfl) (by kernel_rfl) H) (fun x11 H => ?_)
  refine ls_pick_t (x := x11) (by kernel_rfl) (by rw [hb_2]; kernel_rfl) (by kernel_rfl) ?_
  refine ls_nil (then_normal ?_)
  exact ⟨(fun i => ([x1, x11]).getD i ud), x11, by kernel_rfl, HA, H⟩
 ·refine ls_skip (d := some 10) (by kernel_rfl) (by rw [hb_2]; kernel_rfl) ?_
  refine ls_skip (d := some 11) (by kernel_rfl) (by rw [hb_2]; kernel_rfl) ?_
  refine ls_pick_f (y := (.bool false)) (by kernel_rfl) (by rw [hb_2]; kernel_rfl) (by kernel_rfl) ?_
  refine ls_nil (then_normal ?_)
  exact ⟨(fun i => ([ud, ud]).getD i ud), (.bool false), by kernel_rfl, HA, H⟩
 ·rintro _ w_1 ⟨D, x12, rfl, HA_1, H⟩
  refine ls_move (x := x12) (by kernel_rfl) (by kernel_rfl) ?_
  refine ls_and [(), (), ()] (fun K a w => ∃ (D_1 : Nat → Value) (x16 : Value), a = ⟨#[x0, x1, x2, x3, ud, ud, (.bool false), x1, x8, x8, (D 0), (D 1), x12, x12, (D_1 0), (D_1 1), x16, ud, ud, ud, ud, ud, ud, ud, ud], []⟩ ∧ At w0 w h ∧ K x16) H (fun hb_1 H => ?_) (fun hb_1 H => ?_) ?_
  ·refine ls_move (x := x2) (by rw [hb_1]; kernel_rfl) (by kernel_rfl) ?_
   refine ls_p (d := some 15) (by kernel_rfl) (by rw [hb_1]; kernel_rfl) (p_sNe (by kernel_rfl) (by kernel_rfl) H) (fun x15 H => ?_)
   refine ls_pick_t (x := x15) (by kernel_rfl) (by rw [hb_1]; kernel_rfl) (by kernel_rfl) ?_
   refine ls_nil (then_normal ?_)
   exact ⟨(fun i => ([x2, x15]).getD i ud), x15, by kernel_rfl, HA_1, H⟩
  ·refine ls_skip (d := some 14) (by kernel_rfl) (by rw [hb_1]; kernel_rfl) ?_
   refine ls_skip (d := some 15) (by kernel_rfl) (by rw [hb_1]; kernel_rfl) ?_
   refine ls_pick_f (y := (.bool false)) (by kernel_rfl) (by rw [hb_1]; kernel_rfl) (by kernel_rfl) ?_
   refine ls_nil (then_normal ?_)
   exact ⟨(fun i => ([ud, ud]).getD i ud), (.bool false), by kernel_rfl, HA_1, H⟩
  ·rintro _ w_2 ⟨D_1, x16, rfl, HA_2, H⟩
   refine ls_move (x := x16) (by kernel_rfl) (by kernel_rfl) ?_
   refine ls_and [(), (), (), (), (), (), ()] (fun K a w => ∃ (D_2 : Nat → Value) (x24 : Value), a = ⟨#[x0, x1, x2, x3, ud, ud, (.bool false), x1, x8, x8, (D 0), (D 1), x12, x12, (D_1 0), (D_1 1), x16, x16, (D_2 0), (D_2 1), (D_2 2), (D_2 3), (D_2 4), (D_2 5), x24], []⟩ ∧ At w0 w h ∧ K x24) H (fun hb H => ?_) (fun hb H => ?_) ?_
   ·refine ls_move (x := x1) (by rw [hb]; kernel_rfl) (by kernel_rfl) ?_
    refine ls_p (d := some 19) (by kernel_rfl) (by rw [hb]; kernel_rfl) (p_off Try.underlying28 rfl (fun w => ⟨_, Try.sizeOf26 w⟩) rfl (by kernel_rfl) H) (fun x19 H => ?_)
    refine ls_p (d := some 20) (by kernel_rfl) (by rw [hb]; kernel_rfl) (p_ixa Try.underlying26 Try.sizeOf3 (by kernel_rfl) (by kernel_rfl) H) (fun x20 H => ?_)
    refine ls_y (d := some 21) (by kernel_rfl) (by rw [hb]; kernel_rfl) HA_2 (y_ld Try.isAgg3 (by kernel_rfl) H) (fun x21 H => ?_)
    refine ls_move (x := x2) (by rw [hb]; kernel_rfl) (by kernel_rfl) ?_
    refine ls_fr (b := ⟨#[x0, x1, x2, x3, ud, ud, (.bool false), x1, x8, x8, (D 0), (D 1), x12, x12, (D_1 0), (D_1 1), x16, x16, x1, x19, x20, x21, x2, ud, ud], []⟩) (by kernel_rfl) ?_
    refine ls_p (d := some 23) (by kernel_rfl) (by rw [hb]; kernel_rfl) (p_sEq (by kernel_rfl) (by kernel_rfl) H) (fun x23 H => ?_)
    refine ls_pick_t (x := x23) (by kernel_rfl) (by rw [hb]; kernel_rfl) (by kernel_rfl) ?_
    refine ls_nil (then_normal ?_)
    exact ⟨(fun i => ([x1, x19, x20, x21, x2, x23]).getD i ud), x23, by kernel_rfl, HA_2, H⟩
   ·refine ls_skip (d := some 18) (by kernel_rfl) (by rw [hb]; kernel_rfl) ?_
    refine ls_skip (d := some 19) (by kernel_rfl) (by rw [hb]; kernel_rfl) ?_
    refine ls_skip (d := some 20) (by kernel_rfl) (by rw [hb]; kernel_rfl) ?_
    refine ls_skip (d := some 21) (by kernel_rfl) (by rw [hb]; kernel_rfl) ?_
    refine ls_skip (d := some 22) (by kernel_rfl) (by rw [hb]; kernel_rfl) ?_
    refine ls_fr (b := ⟨#[x0, x1, x2, x3, ud, ud, (.bool false), x1, x8, x8, (D 0), (D 1), x12, x12, (D_1 0), (D_1 1), x16, x16, ud, ud, ud, ud, ud, ud, ud], []⟩) (by kernel_rfl) ?_
    refine ls_skip (d := some 23) (by kernel_rfl) (by rw [hb]; kernel_rfl) ?_
    refine ls_pick_f (y := (.bool false)) (by kernel_rfl) (by rw [hb]; kernel_rfl) (by kernel_rfl) ?_
    refine ls_nil (then_normal ?_)
    exact ⟨(fun i => (Ap [] 6).getD i ud), (.bool false), by kernel_rfl, HA_2, H⟩
   ·rintro _ w_3 ⟨D_2, x24, rfl, HA_3, H⟩
    refine ls_assign (x := x24) (by kernel_rfl) (by kernel_rfl) ?_
    refine ls_nil (then_normal ?_)
    refine fr_eq (b := ⟨#[x0, x1, x2, x3, ud, ud, x24, x1, x8, x8, (D 0), (D 1), x12, x12, (D_1 0), (D_1 1), x16, x16, (D_2 0), (D_2 1), (D_2 2), (D_2 3), (D_2 4), (D_2 5), x24], []⟩) (by kernel_rfl) ?_
    refine wp_ret ?_
    exact end1 (Try.results70) (by kernel_rfl) (by kernel_rfl) HA_3 H _ (.inr rfl)

end Go.Proofs.Ytlcklnbgknhhkaa

end

section
/- The shallow reading of one function, and that the function does it. Written by a program. -/
set_option linter.unusedVariables false
namespace Go.Proofs.Ytlcklnbgknhhkaa
open Go Go.HW

def betonyref17_Right_l1 (R : Value → Heap → Prop) (x1 : Value) (next : Value → Heap → Prop) (x3 : Value) (h_1 : Heap) : Prop :=
  sLt x3 (.int .i64 12) fun x5 =>
  sIf x5 (sOff x1 3 fun x9 =>
  sIxA x9 x3 12 1 fun x10 =>
  sLd h_1 x10 fun x11 =>
  sLt x11 (.int .i64 0) fun x12 =>
  sOr x12 (fun k =>
  sOff x1 3 fun x15 =>
  sIxA x15 x3 12 1 fun x16 =>
  sLd h_1 x16 fun x17 =>
  sGt x17 (.int .i64 255) fun x18 =>
  k x18) fun x19 =>
  sIf x19 (R (.bool false) h_1) (sAdd .i64 x3 (.int .i64 1) fun x7 =>
  next x7 h_1)) (sOff x1 0 fun x20 =>
  sLd h_1 x20 fun x21 =>
  sGe x21 (.int .i64 0) fun x22 =>
  sAnd x22 (fun k_9 =>
  sOff x1 0 fun x24 =>
  sLd h_1 x24 fun x25 =>
  sLe x25 (.int .i64 127) fun x26 =>
  k_9 x26) fun x27 =>
  sAnd x27 (fun k_8 =>
  sOff x1 1 fun x29 =>
  sLd h_1 x29 fun x30 =>
  sGe x30 (.int .i64 0) fun x31 =>
  k_8 x31) fun x32 =>
  sAnd x32 (fun k_7 =>
  sOff x1 1 fun x34 =>
  sLd h_1 x34 fun x35 =>
  sLe x35 (.int .i64 63) fun x36 =>
  k_7 x36) fun x37 =>
  sAnd x37 (fun k_6 =>
  sOff x1 2 fun x39 =>
  sLd h_1 x39 fun x40 =>
  sGe x40 (.int .i64 0) fun x41 =>
  k_6 x41) fun x42 =>
  sAnd x42 (fun k_5 =>
  sOff x1 2 fun x44 =>
  sLd h_1 x44 fun x45 =>
  sLe x45 (.int .i64 1023) fun x46 =>
  k_5 x46) fun x47 =>
  sAnd x47 (fun k_4 =>
  sOff x1 15 fun x49 =>
  sLd h_1 x49 fun x50 =>
  sGe x50 (.int .i64 0) fun x51 =>
  k_4 x51) fun x52 =>
  sAnd x52 (fun k_3 =>
  sOff x1 15 fun x54 =>
  sLd h_1 x54 fun x55 =>
  sLe x55 (.int .i64 255) fun x56 =>
  k_3 x56) fun x57 =>
  sAnd x57 (fun k_2 =>
  sOff x1 16 fun x59 =>
  sLd h_1 x59 fun x60 =>
  sGe x60 (.int .i64 0) fun x61 =>
  k_2 x61) fun x62 =>
  sAnd x62 (fun k_1 =>
  sOff x1 16 fun x64 =>
  sLd h_1 x64 fun x65 =>
  sLe x65 (.int .i64 255) fun x66 =>
  k_1 x66) fun x67 =>
  R x67 h_1)
def betonyref17_Right_S (x0 : Value) (h : Heap) (R : Value → Heap → Prop) : Prop :=
  sBox h x0 28 fun x1 h => 
  sLoop (S := Value) (fun nxt s h => betonyref17_Right_l1 R x1 (fun x3' h => nxt x3' h) s h) (.int .i64 0) h
set_option maxRecDepth 100000 in
theorem betonyref17_Right_runs {x0 : Value} {h : Heap} {R : Value → Heap → Prop} (H : betonyref17_Right_S x0 h R) : betonyref17_Right_c x0 h R := by
 unfold betonyref17_Right_S at H
 refine runs_of (b := ⟨(Ap [x0] 67).toArray, []⟩) Try.call22 Try.func22 rfl (by kernel_rfl) (fun w0 HA => ?_)
 refine wp_seq (lwp_list ?_)
 refine ls_d (d := some 1) (by kernel_rfl) (by kernel_rfl) HA (d_box (by kernel_rfl) H) (fun x1 h w H HA => ?_)
 refine ls_assign (x := (.bool false)) (by kernel_rfl) (by kernel_rfl) ?_
 refine ls_nil (then_normal ?_)
 refine fr_eq (b := ⟨(Ap [x0, x1, (.bool false)] 65).toArray, []⟩) (by kernel_rfl) ?_
 refine wp_seq ?_
 refine wp_seq (lwp_list ?_)
 refine ls_assign (x := (.int .i64 0)) (by kernel_rfl) (by kernel_rfl) ?_
 refine ls_nil (then_normal ?_)
 refine fr_eq (b := ⟨(Ap [x0, x1, (.bool false), (.int .i64 0)] 64).toArray, []⟩) (by kernel_rfl) ?_
 refine wp_block ?_
 obtain ⟨I, m, H0, HB⟩ := H
 refine wp_loop (fun a w => ∃ (D : Nat → Value) (x3 : Value) (h_1 : Heap), a = ⟨([x0, x1, (D 0), x3] ++ (Ad D 1 16 (Ap [] 48))).toArray, []⟩ ∧ At w0 w h_1 ∧ I x3 h_1) (fun a w => m (a.tmps.getD 3 ud) w.heap) ?_ ?_
 ·exact ⟨(fun i => (Ap [(.bool false)] 16).getD i ud), (.int .i64 0), h, by kernel_rfl, HA, H0⟩
 ·rintro _ w_1 ⟨D, x3, h_1, rfl, HA_1, HI⟩
  have H : betonyref17_Right_l1 R x1 (fun x3' h' => I x3' h' ∧ m x3' h' < m x3 h_1) x3 h_1 := HB x3 h_1 HI
  clear HB H0 HI
  unfold betonyref17_Right_l1 at H
  refine wp_seq ?_
  refine wp_seq (lwp_list ?_)
  refine ls_move (x := x3) (by kernel_rfl) (by kernel_rfl) ?_
  refine ls_p (d := some 5) (by kernel_rfl) (by kernel_rfl) (p_sLt (by kernel_rfl) (by kernel_rfl) H) (fun x5 H => ?_)
  refine ls_nil (then_normal ?_)
  refine fr_eq (b := ⟨([x0, x1, (D 0), x3, x3, x5] ++ (Ad D 3 14 (Ap [] 48))).toArray, []⟩) (by kernel_rfl) ?_
  refine wp_if rfl H (fun H => ?_) (fun H => ?_)
  ·refine wp_skip ?_
   refine then_normal ?_
   refine fr_eq (b := ⟨([x0, x1, (D 0), x3, x3, x5] ++ (Ad D 3 14 (Ap [] 48))).toArray, []⟩) (by kernel_rfl) ?_
   refine wp_seq ?_
   refine wp_block ?_
   refine wp_seq (lwp_list ?_)
   refine ls_move (x := x3) (by kernel_rfl) (by kernel_rfl) ?_
   refine ls_p (d := some 9) (by kernel_rfl) (by kernel_rfl) (p_off Try.underlying28 rfl (fun w => ⟨_, Try.sizeOf26 w⟩) rfl (by kernel_rfl) H) (fun x9 H => ?_)
   refine ls_p (d := some 10) (by kernel_rfl) (by kernel_rfl) (p_ixa Try.underlying26 Try.sizeOf3 (by kernel_rfl) (by kernel_rfl) H) (fun x10 H => ?_)
   refine ls_y (d := some 11) (by kernel_rfl) (by kernel_rfl) HA_1 (y_ld Try.isAgg3 (by kernel_rfl) H) (fun x11 H => ?_)
   refine ls_p (d := some 12) (by kernel_rfl) (by kernel_rfl) (p_sLt (by kernel_rfl) (by kernel_rfl) H) (fun x12 H => ?_)
   refine ls_move (x := x12) (by kernel_rfl) (by kernel_rfl) ?_
   refine ls_fr (b := ⟨([x0, x1, (D 0), x3, x3, x5, (D 3), (D 4), x3, x9, x10, x11, x12, x12] ++ (Ad D 11 6 (Ap [] 48))).toArray, []⟩) (by kernel_rfl) ?_
   refine ls_or [(), (), (), (), (), ()] (fun K a w => ∃ (D_1 : Nat → Value) (x19 : Value), a = ⟨([x0, x1, (D 0), x3, x3, x5, (D 3), (D 4), x3, x9, x10, x11, x12, x12] ++ (Ad D_1 0 5 (Ap [x19] 48))).toArray, []⟩ ∧ At w0 w h_1 ∧ K x19) H (fun hb H => ?_) (fun hb H => ?_) ?_
   ·refine ls_move (x := x3) (by rw [hb]; kernel_rfl) (by kernel_rfl) ?_
    refine ls_p (d := some 15) (by kernel_rfl) (by rw [hb]; kernel_rfl) (p_off Try.underlying28 rfl (fun w => ⟨_, Try.sizeOf26 w⟩) rfl (by kernel_rfl) H) (fun x15 H => ?_)
    refine ls_p (d := some 16) (by kernel_rfl) (by rw [hb]; kernel_rfl) (p_ixa Try.underlying26 Try.sizeOf3 (by kernel_rfl) (by kernel_rfl) H) (fun x16 H => ?_)
    refine ls_y (d := some 17) (by kernel_rfl) (by rw [hb]; kernel_rfl) HA_1 (y_ld Try.isAgg3 (by kernel_rfl) H) (fun x17 H => ?_)
    refine ls_p (d := some 18) (by kernel_rfl) (by rw [hb]; kernel_rfl) (p_sGt (by kernel_rfl) (by kernel_rfl) H) (fun x18 H => ?_)
    refine ls_pick_f (y := x18) (by kernel_rfl) (by rw [hb]; kernel_rfl) (by kernel_rfl) ?_
    refine ls_nil (then_normal ?_)
    exact ⟨(fun i => ([x3, x15, x16, x17, x18]).getD i ud), x18, by kernel_rfl, HA_1, H⟩
   ·refine ls_skip (d := some 14) (by kernel_rfl) (by rw [hb]; kernel_rfl) ?_
    refine ls_skip (d := some 15) (by kernel_rfl) (by rw [hb]; kernel_rfl) ?_
    refine ls_skip (d := some 16) (by kernel_rfl) (by rw [hb]; kernel_rfl) ?_
    refine ls_skip (d := some 17) (by kernel_rfl) (by rw [hb]; kernel_rfl) ?_
    refine ls_skip (d := some 18) (by kernel_rfl) (by rw [hb]; kernel_rfl) ?_
    refine ls_pick_t (x := (.bool true)) (by kernel_rfl) (by rw [hb]; kernel_rfl) (by kernel_rfl) ?_
    refine ls_nil (then_normal ?_)
    exact ⟨(fun i => (Ap [] 5).getD i ud), (.bool true), by kernel_rfl, HA_1, H⟩
   ·rintro _ w_2 ⟨D_1, x19, rfl, HA_2, H⟩
    refine ls_nil (then_normal ?_)
    refine fr_eq (b := ⟨([x0, x1, (D 0), x3, x3, x5, (D 3), (D 4), x3, x9, x10, x11, x12, x12] ++ (Ad D_1 0 5 (Ap [x19] 48))).toArray, []⟩) (by kernel_rfl) ?_
    refine wp_if rfl H (fun H => ?_) (fun H => ?_)
    ·refine wp_seq (lwp_list ?_)
     refine ls_assign (x := (.bool false)) (by kernel_rfl) (by kernel_rfl) ?_
     refine ls_nil (then_normal ?_)
     refine fr_eq (b := ⟨([x0, x1, (.bool false), x3, x3, x5, (D 3), (D 4), x3, x9, x10, x11, x12, x12] ++ (Ad D_1 0 5 (Ap [x19] 48))).toArray, []⟩) (by kernel_rfl) ?_
     refine wp_ret ?_
     refine block_ret ?_
     refine then_ret ?_
     refine then_ret ?_
     refine block_ret ?_
     refine then_ret ?_
     exact end1 (Try.results22) (by kernel_rfl) (by kernel_rfl) HA_2 H _ (.inr rfl)
    ·refine wp_skip ?_
     refine block_normal ?_
     refine then_normal ?_
     refine fr_eq (b := ⟨([x0, x1, (D 0), x3, x3, x5, (D 3), (D 4), x3, x9, x10, x11, x12, x12] ++ (Ad D_1 0 5 (Ap [x19] 48))).toArray, []⟩) (by kernel_rfl) ?_
     refine lwp_list ?_
     refine ls_move (x := x3) (by kernel_rfl) (by kernel_rfl) ?_
     refine ls_p (d := some 7) (by kernel_rfl) (by kernel_rfl) (p_add (by kernel_rfl) (by kernel_rfl) H) (fun x7 H => ?_)
     refine ls_assign (x := x7) (by kernel_rfl) (by kernel_rfl) ?_
     refine ls_nil ?_
     exact ⟨⟨(fun i => ([(D 0), x3, x5, x3, x7, x3, x9, x10, x11, x12, x12] ++ (Ad D_1 0 5 [x19])).getD i ud), x7, h_1, by kernel_rfl, HA_2, H.1⟩, loop_lt HA_2.heap HA_1.heap (by kernel_rfl) (by kernel_rfl) H.2⟩
  ·refine wp_exit ?_
   refine then_exit ?_
   refine then_exit ?_
   refine block_exit ?_
   refine then_normal ?_
   refine fr_eq (b := ⟨([x0, x1, (D 0), x3, x3, x5] ++ (Ad D 3 14 (Ap [] 48))).toArray, []⟩) (by kernel_rfl) ?_
   refine wp_seq (lwp_list ?_)
   refine ls_p (d := some 20) (by kernel_rfl) (by kernel_rfl) (p_off Try.underlying28 rfl (fun w => ⟨_, Try.sizeOf3 w⟩) rfl (by kernel_rfl) H) (fun x20 H => ?_)
   refine ls_y (d := some 21) (by kernel_rfl) (by kernel_rfl) HA_1 (y_ld Try.isAgg3 (by kernel_rfl) H) (fun x21 H => ?_)
   refine ls_p (d := some 22) (by kernel_rfl) (by kernel_rfl) (p_sGe (by kernel_rfl) (by kernel_rfl) H) (fun x22 H => ?_)
   refine ls_move (x := x22) (by kernel_rfl) (by kernel_rfl) ?_
   refine ls_and [(), (), (), ()] (fun K a w => ∃ (D_2 : Nat → Value) (x27 : Value), a = ⟨([x0, x1, (D 0), x3, x3, x5] ++ (Ad D 3 14 (Ap [x20, x21, x22, x22, (D_2 0), (D_2 1), (D_2 2), x27] 40))).toArray, []⟩ ∧ At w0 w h_1 ∧ K x27) H (fun hb_9 H => ?_) (fun hb_9 H => ?_) ?_
   ·refine ls_p (d := some 24) (by kernel_rfl) (by rw [hb_9]; kernel_rfl) (p_off Try.underlying28 rfl (fun w => ⟨_, Try.sizeOf3 w⟩) rfl (by kernel_rfl) H) (fun x24 H => ?_)
    refine ls_y (d := some 25) (by kernel_rfl) (by rw [hb_9]; kernel_rfl) HA_1 (y_ld Try.isAgg3 (by kernel_rfl) H) (fun x25 H => ?_)
    refine ls_fr (b := ⟨([x0, x1, (D 0), x3, x3, x5] ++ (Ad D 3 14 (Ap [x20, x21, x22, x22, x24, x25] 42))).toArray, []⟩) (by kernel_rfl) ?_
    refine ls_p (d := some 26) (by kernel_rfl) (by rw [hb_9]; kernel_rfl) (p_sLe (by kernel_rfl) (by kernel_rfl) H) (fun x26 H => ?_)
    refine ls_pick_t (x := x26) (by kernel_rfl) (by rw [hb_9]; kernel_rfl) (by kernel_rfl) ?_
    refine ls_nil (then_normal ?_)
    exact ⟨(fun i => ([x24, x25, x26]).getD i ud), x26, by kernel_rfl, HA_1, H⟩
   ·refine ls_skip (d := some 24) (by kernel_rfl) (by rw [hb_9]; kernel_rfl) ?_
    refine ls_skip (d := some 25) (by kernel_rfl) (by rw [hb_9]; kernel_rfl) ?_
    refine ls_fr (b := ⟨([x0, x1, (D 0), x3, x3, x5] ++ (Ad D 3 14 (Ap [x20, x21, x22, x22] 44))).toArray, []⟩) (by kernel_rfl) ?_
    refine ls_skip (d := some 26) (by kernel_rfl) (by rw [hb_9]; kernel_rfl) ?_
    refine ls_pick_f (y := (.bool false)) (by kernel_rfl) (by rw [hb_9]; kernel_rfl) (by kernel_rfl) ?_
    refine ls_nil (then_normal ?_)
    exact ⟨(fun i => ([ud, ud, ud]).getD i ud), (.bool false), by kernel_rfl, HA_1, H⟩
   ·rintro _ w_3 ⟨D_2, x27, rfl, HA_3, H⟩
    refine ls_move (x := x27) (by kernel_rfl) (by kernel_rfl) ?_
    refine ls_and [(), (), (), ()] (fun K a w => ∃ (D_3 : Nat → Value) (x32 : Value), a = ⟨([x0, x1, (D 0), x3, x3, x5] ++ (Ad D 3 14 (Ap [x20, x21, x22, x22, (D_2 0), (D_2 1), (D_2 2), x27, x27, (D_3 0), (D_3 1), (D_3 2), x32] 35))).toArray, []⟩ ∧ At w0 w h_1 ∧ K x32) H (fun hb_8 H => ?_) (fun hb_8 H => ?_) ?_
    ·refine ls_p (d := some 29) (by kernel_rfl) (by rw [hb_8]; kernel_rfl) (p_off Try.underlying28 rfl (fun w => ⟨_, Try.sizeOf3 w⟩) rfl (by kernel_rfl) H) (fun x29 H => ?_)
     refine ls_y (d := some 30) (by kernel_rfl) (by rw [hb_8]; kernel_rfl) HA_3 (y_ld Try.isAgg3 (by kernel_rfl) H) (fun x30 H => ?_)
     refine ls_p (d := some 31) (by kernel_rfl) (by rw [hb_8]; kernel_rfl) (p_sGe (by kernel_rfl) (by kernel_rfl) H) (fun x31 H => ?_)
     refine ls_pick_t (x := x31) (by kernel_rfl) (by rw [hb_8]; kernel_rfl) (by kernel_rfl) ?_
     refine ls_nil (then_normal ?_)
     exact ⟨(fun i => ([x29, x30, x31]).getD i ud), x31, by kernel_rfl, HA_3, H⟩
    ·refine ls_skip (d := some 29) (by kernel_rfl) (by rw [hb_8]; kernel_rfl) ?_
     refine ls_skip (d := some 30) (by kernel_rfl) (by rw [hb_8]; kernel_rfl) ?_
     refine ls_skip (d := some 31) (by kernel_rfl) (by rw [hb_8]; kernel_rfl) ?_
     refine ls_pick_f (y := (.bool false)) (by kernel_rfl) (by rw [hb_8]; kernel_rfl) (by kernel_rfl) ?_
     refine ls_nil (then_normal ?_)
     exact ⟨(fun i => ([ud, ud, ud]).getD i ud), (.bool false), by kernel_rfl, HA_3, H⟩
    ·rintro _ w_4 ⟨D_3, x32, rfl, HA_4, H⟩
     refine ls_move (x := x32) (by kernel_rfl) (by kernel_rfl) ?_
     refine ls_and [(), (), (), ()] (fun K a w => ∃ (D_4 : Nat → Value) (x37 : Value), a = ⟨([x0, x1, (D 0), x3, x3, x5] ++ (Ad D 3 14 (Ap [x20, x21, x22, x22, (D_2 0), (D_2 1), (D_2 2), x27, x27, (D_3 0), (D_3 1), (D_3 2), x32, x32, (D_4 0), (D_4 1), (D_4 2), x37] 30))).toArray, []⟩ ∧ At w0 w h_1 ∧ K x37) H (fun hb_7 H => ?_) (fun hb_7 H => ?_) ?_
     ·refine ls_p (d := some 34) (by kernel_rfl) (by rw [hb_7]; kernel_rfl) (p_off Try.underlying28 rfl (fun w => ⟨_, Try.sizeOf3 w⟩) rfl (by kernel_rfl) H) (fun x34 H => ?_)
      refine ls_y (d := some 35) (by kernel_rfl) (by rw [hb_7]; kernel_rfl) HA_4 (y_ld Try.isAgg3 (by kernel_rfl) H) (fun x35 H => ?_)
      refine ls_p (d := some 36) (by kernel_rfl) (by rw [hb_7]; kernel_rfl) (p_sLe (by kernel_rfl) (by kernel_rfl) H) (fun x36 H => ?_)
      refine ls_pick_t (x := x36) (by kernel_rfl) (by rw [hb_7]; kernel_rfl) (by kernel_rfl) ?_
      refine ls_nil (then_normal ?_)
      exact ⟨(fun i => ([x34, x35, x36]).getD i ud), x36, by kernel_rfl, HA_4, H⟩
     ·refine ls_skip (d := some 34) (by kernel_rfl) (by rw [hb_7]; kernel_rfl) ?_
      refine ls_skip (d := some 35) (by kernel_rfl) (by rw [hb_7]; kernel_rfl) ?_
      refine ls_skip (d := some 36) (by kernel_rfl) (by rw [hb_7]; kernel_rfl) ?_
      refine ls_pick_f (y := (.bool false)) (by kernel_rfl) (by rw [hb_7]; kernel_rfl) (by kernel_rfl) ?_
      refine ls_nil (then_normal ?_)
      exact ⟨(fun i => ([ud, ud, ud]).getD i ud), (.bool false), by kernel_rfl, HA_4, H⟩
     ·rintro _ w_5 ⟨D_4, x37, rfl, HA_5, H⟩
      refine ls_move (x := x37) (by kernel_rfl) (by kernel_rfl) ?_
      refine ls_and [(), (), (), ()] (fun K a w => ∃ (D_5 : Nat → Value) (x42 : Value), a = ⟨([x0, x1, (D 0), x3, x3, x5] ++ (Ad D 3 14 (Ap [x20, x21, x22, x22, (D_2 0), (D_2 1), (D_2 2), x27, x27, (D_3 0), (D_3 1), (D_3 2), x32, x32, (D_4 0), (D_4 1), (D_4 2), x37, x37, (D_5 0), (D_5 1), (D_5 2), x42] 25))).toArray, []⟩ ∧ At w0 w h_1 ∧ K x42) H (fun hb_6 H => ?_) (fun hb_6 H => ?_) ?_
      ·refine ls_p (d := some 39) (by kernel_rfl) (by rw [hb_6]; kernel_rfl) (p_off Try.underlying28 rfl (fun w => ⟨_, Try.sizeOf3 w⟩) rfl (by kernel_rfl) H) (fun x39 H => ?_)
       refine ls_y (d := some 40) (by kernel_rfl) (by rw [hb_6]; kernel_rfl) HA_5 (y_ld Try.isAgg3 (by kernel_rfl) H) (fun x40 H => ?_)
       refine ls_p (d := some 41) (by kernel_rfl) (by rw [hb_6]; kernel_rfl) (p_sGe (by kernel_rfl) (by kernel_rfl) H) (fun x41 H => ?_)
       refine ls_pick_t (x := x41) (by kernel_rfl) (by rw [hb_6]; kernel_rfl) (by kernel_rfl) ?_
       refine ls_nil (then_normal ?_)
       exact ⟨(fun i => ([x39, x40, x41]).getD i ud), x41, by kernel_rfl, HA_5, H⟩
      ·refine ls_skip (d := some 39) (by kernel_rfl) (by rw [hb_6]; kernel_rfl) ?_
       refine ls_skip (d := some 40) (by kernel_rfl) (by rw [hb_6]; kernel_rfl) ?_
       refine ls_skip (d := some 41) (by kernel_rfl) (by rw [hb_6]; kernel_rfl) ?_
       refine ls_pick_f (y := (.bool false)) (by kernel_rfl) (by rw [hb_6]; kernel_rfl) (by kernel_rfl) ?_
       refine ls_nil (then_normal ?_)
       exact ⟨(fun i => ([ud, ud, ud]).getD i ud), (.bool false), by kernel_rfl, HA_5, H⟩
      ·rintro _ w_6 ⟨D_5, x42, rfl, HA_6, H⟩
       refine ls_move (x := x42) (by kernel_rfl) (by kernel_rfl) ?_
       refine ls_and [(), (), (), ()] (fun K a w => ∃ (D_6 : Nat → Value) (x47 : Value), a = ⟨([x0, x1, (D 0), x3, x3, x5] ++ (Ad D 3 14 (Ap [x20, x21, x22, x22, (D_2 0), (D_2 1), (D_2 2), x27, x27, (D_3 0), (D_3 1), (D_3 2), x32, x32, (D_4 0), (D_4 1), (D_4 2), x37, x37, (D_5 0), (D_5 1), (D_5 2), x42, x42, (D_6 0), (D_6 1), (D_6 2), x47] 20))).toArray, []⟩ ∧ At w0 w h_1 ∧ K x47) H (fun hb_5 H => ?_) (fun hb_5 H => ?_) ?_
       ·refine ls_p (d := some 44) (by kernel_rfl) (by rw [hb_5]; kernel_rfl) (p_off Try.underlying28 rfl (fun w => ⟨_, Try.sizeOf3 w⟩) rfl (by kernel_rfl) H) (fun x44 H => ?_)
        refine ls_y (d := some 45) (by kernel_rfl) (by rw [hb_5]; kernel_rfl) HA_6 (y_ld Try.isAgg3 (by kernel_rfl) H) (fun x45 H => ?_)
        refine ls_p (d := some 46) (by kernel_rfl) (by rw [hb_5]; kernel_rfl) (p_sLe (by kernel_rfl) (by kernel_rfl) H) (fun x46 H => ?_)
        refine ls_pick_t (x := x46) (by kernel_rfl) (by rw [hb_5]; kernel_rfl) (by kernel_rfl) ?_
        refine ls_nil (then_normal ?_)
        exact ⟨(fun i => ([x44, x45, x46]).getD i ud), x46, by kernel_rfl, HA_6, H⟩
       ·refine ls_skip (d := some 44) (by kernel_rfl) (by rw [hb_5]; kernel_rfl) ?_
        refine ls_skip (d := some 45) (by kernel_rfl) (by rw [hb_5]; kernel_rfl) ?_
        refine ls_skip (d := some 46) (by kernel_rfl) (by rw [hb_5]; kernel_rfl) ?_
        refine ls_pick_f (y := (.bool false)) (by kernel_rfl) (by rw [hb_5]; kernel_rfl) (by kernel_rfl) ?_
        refine ls_nil (then_normal ?_)
        exact ⟨(fun i => ([ud, ud, ud]).getD i ud), (.bool false), by kernel_rfl, HA_6, H⟩
       ·rintro _ w_7 ⟨D_6, x47, rfl, HA_7, H⟩
        refine ls_move (x := x47) (by kernel_rfl) (by kernel_rfl) ?_
        refine ls_and [(), (), (), ()] (fun K a w => ∃ (D_7 : Nat → Value) (x52 : Value), a = ⟨([x0, x1, (D 0), x3, x3, x5] ++ (Ad D 3 14 (Ap [x20, x21, x22, x22, (D_2 0), (D_2 1), (D_2 2), x27, x27, (D_3 0), (D_3 1), (D_3 2), x32, x32, (D_4 0), (D_4 1), (D_4 2), x37, x37, (D_5 0), (D_5 1), (D_5 2), x42, x42, (D_6 0), (D_6 1), (D_6 2), x47, x47, (D_7 0), (D_7 1), (D_7 2), x52] 15))).toArray, []⟩ ∧ At w0 w h_1 ∧ K x52) H (fun hb_4 H => ?_) (fun hb_4 H => ?_) ?_
        ·refine ls_p (d := some 49) (by kernel_rfl) (by rw [hb_4]; kernel_rfl) (p_off Try.underlying28 rfl (fun w => ⟨_, Try.sizeOf3 w⟩) rfl (by kernel_rfl) H) (fun x49 H => ?_)
         refine ls_y (d := some 50) (by kernel_rfl) (by rw [hb_4]; kernel_rfl) HA_7 (y_ld Try.isAgg3 (by kernel_rfl) H) (fun x50 H => ?_)
         refine ls_p (d := some 51) (by kernel_rfl) (by rw [hb_4]; kernel_rfl) (p_sGe (by kernel_rfl) (by kernel_rfl) H) (fun x51 H => ?_)
         refine ls_pick_t (x := x51) (by kernel_rfl) (by rw [hb_4]; kernel_rfl) (by kernel_rfl) ?_
         refine ls_nil (then_normal ?_)
         exact ⟨(fun i => ([x49, x50, x51]).getD i ud), x51, by kernel_rfl, HA_7, H⟩
        ·refine ls_skip (d := some 49) (by kernel_rfl) (by rw [hb_4]; kernel_rfl) ?_
         refine ls_skip (d := some 50) (by kernel_rfl) (by rw [hb_4]; kernel_rfl) ?_
         refine ls_skip (d := some 51) (by kernel_rfl) (by rw [hb_4]; kernel_rfl) ?_
         refine ls_pick_f (y := (.bool false)) (by kernel_rfl) (by rw [hb_4]; kernel_rfl) (by kernel_rfl) ?_
         refine ls_nil (then_normal ?_)
         exact ⟨(fun i => ([ud, ud, ud]).getD i ud), (.bool false), by kernel_rfl, HA_7, H⟩
        ·rintro _ w_8 ⟨D_7, x52, rfl, HA_8, H⟩
         refine ls_move (x := x52) (by kernel_rfl) (by kernel_rfl) ?_
         refine ls_and [(), (), (), ()] (fun K a w => ∃ (D_8 : Nat → Value) (x57 : Value), a = ⟨([x0, x1, (D 0), x3, x3, x5] ++ (Ad D 3 14 (Ap [x20, x21, x22, x22, (D_2 0), (D_2 1), (D_2 2), x27, x27, (D_3 0), (D_3 1), (D_3 2), x32, x32, (D_4 0), (D_4 1), (D_4 2), x37, x37, (D_5 0), (D_5 1), (D_5 2), x42, x42, (D_6 0), (D_6 1), (D_6 2), x47, x47, (D_7 0), (D_7 1), (D_7 2), x52, x52, (D_8 0), (D_8 1), (D_8 2), x57] 10))).toArray, []⟩ ∧ At w0 w h_1 ∧ K x57) H (fun hb_3 H => ?_) (fun hb_3 H => ?_) ?_
         ·refine ls_p (d := some 54) (by kernel_rfl) (by rw [hb_3]; kernel_rfl) (p_off Try.underlying28 rfl (fun w => ⟨_, Try.sizeOf3 w⟩) rfl (by kernel_rfl) H) (fun x54 H => ?_)
          refine ls_y (d := some 55) (by kernel_rfl) (by rw [hb_3]; kernel_rfl) HA_8 (y_ld Try.isAgg3 (by kernel_rfl) H) (fun x55 H => ?_)
          refine ls_p (d := some 56) (by kernel_rfl) (by rw [hb_3]; kernel_rfl) (p_sLe (by kernel_rfl) (by kernel_rfl) H) (fun x56 H => ?_)
          refine ls_pick_t (x := x56) (by kernel_rfl) (by rw [hb_3]; kernel_rfl) (by kernel_rfl) ?_
          refine ls_nil (then_normal ?_)
          exact ⟨(fun i => ([x54, x55, x56]).getD i ud), x56, by kernel_rfl, HA_8, H⟩
         ·refine ls_skip (d := some 54) (by kernel_rfl) (by rw [hb_3]; kernel_rfl) ?_
          refine ls_skip (d := some 55) (by kernel_rfl) (by rw [hb_3]; kernel_rfl) ?_
          refine ls_skip (d := some 56) (by kernel_rfl) (by rw [hb_3]; kernel_rfl) ?_
          refine ls_pick_f (y := (.bool false)) (by kernel_rfl) (by rw [hb_3]; kernel_rfl) (by kernel_rfl) ?_
          refine ls_nil (then_normal ?_)
          exact ⟨(fun i => ([ud, ud, ud]).getD i ud), (.bool false), by kernel_rfl, HA_8, H⟩
         ·rintro _ w_9 ⟨D_8, x57, rfl, HA_9, H⟩
          refine ls_move (x := x57) (by kernel_rfl) (by kernel_rfl) ?_
          refine ls_and [(), (), (), ()] (fun K a w => ∃ (D_9 : Nat → Value) (x62 : Value), a = ⟨([x0, x1, (D 0), x3, x3, x5] ++ (Ad D 3 14 (Ap [x20, x21, x22, x22, (D_2 0), (D_2 1), (D_2 2), x27, x27, (D_3 0), (D_3 1), (D_3 2), x32, x32, (D_4 0), (D_4 1), (D_4 2), x37, x37, (D_5 0), (D_5 1), (D_5 2), x42, x42, (D_6 0), (D_6 1), (D_6 2), x47, x47, (D_7 0), (D_7 1), (D_7 2), x52, x52, (D_8 0), (D_8 1), (D_8 2), x57, x57, (D_9 0), (D_9 1), (D_9 2), x62] 5))).toArray, []⟩ ∧ At w0 w h_1 ∧ K x62) H (fun hb_2 H => ?_) (fun hb_2 H => ?_) ?_
          ·refine ls_p (d := some 59) (by kernel_rfl) (by rw [hb_2]; kernel_rfl) (p_off Try.underlying28 rfl (fun w => ⟨_, Try.sizeOf3 w⟩) rfl (by kernel_rfl) H) (fun x59 H => ?_)
           refine ls_y (d := some 60) (by kernel_rfl) (by rw [hb_2]; kernel_rfl) HA_9 (y_ld Try.isAgg3 (by kernel_rfl) H) (fun x60 H => ?_)
           refine ls_p (d := some 61) (by kernel_rfl) (by rw [hb_2]; kernel_rfl) (p_sGe (by kernel_rfl) (by kernel_rfl) H) (fun x61 H => ?_)
           refine ls_pick_t (x := x61) (by kernel_rfl) (by rw [hb_2]; kernel_rfl) (by kernel_rfl) ?_
           refine ls_nil (then_normal ?_)
           exact ⟨(fun i => ([x59, x60, x61]).getD i ud), x61, by kernel_rfl, HA_9, H⟩
          ·refine ls_skip (d := some 59) (by kernel_rfl) (by rw [hb_2]; kernel_rfl) ?_
           refine ls_skip (d := some 60) (by kernel_rfl) (by rw [hb_2]; kernel_rfl) ?_
           refine ls_skip (d := some 61) (by kernel_rfl) (by rw [hb_2]; kernel_rfl) ?_
           refine ls_pick_f (y := (.bool false)) (by kernel_rfl) (by rw [hb_2]; kernel_rfl) (by kernel_rfl) ?_
           refine ls_nil (then_normal ?_)
           exact ⟨(fun i => ([ud, ud, ud]).getD i ud), (.bool false), by kernel_rfl, HA_9, H⟩
          ·rintro _ w_10 ⟨D_9, x62, rfl, HA_10, H⟩
           refine ls_move (x := x62) (by kernel_rfl) (by kernel_rfl) ?_
           refine ls_and [(), (), (), ()] (fun K a w => ∃ (D_10 : Nat → Value) (x67 : Value), a = ⟨([x0, x1, (D 0), x3, x3, x5] ++ (Ad D 3 14 [x20, x21, x22, x22, (D_2 0), (D_2 1), (D_2 2), x27, x27, (D_3 0), (D_3 1), (D_3 2), x32, x32, (D_4 0), (D_4 1), (D_4 2), x37, x37, (D_5 0), (D_5 1), (D_5 2), x42, x42, (D_6 0), (D_6 1), (D_6 2), x47, x47, (D_7 0), (D_7 1), (D_7 2), x52, x52, (D_8 0), (D_8 1), (D_8 2), x57, x57, (D_9 0), (D_9 1), (D_9 2), x62, x62, (D_10 0), (D_10 1), (D_10 2), x67])).toArray, []⟩ ∧ At w0 w h_1 ∧ K x67) H (fun hb_1 H => ?_) (fun hb_1 H => ?_) ?_
           ·refine ls_p (d := some 64) (by kernel_rfl) (by rw [hb_1]; kernel_rfl) (p_off Try.underlying28 rfl (fun w => ⟨_, Try.sizeOf3 w⟩) rfl (by kernel_rfl) H) (fun x64 H => ?_)
            refine ls_y (d := some 65) (by kernel_rfl) (by rw [hb_1]; kernel_rfl) HA_10 (y_ld Try.isAgg3 (by kernel_rfl) H) (fun x65 H => ?_)
            refine ls_p (d := some 66) (by kernel_rfl) (by rw [hb_1]; kernel_rfl) (p_sLe (by kernel_rfl) (by kernel_rfl) H) (fun x66 H => ?_)
            refine ls_pick_t (x := x66) (by kernel_rfl) (by rw [hb_1]; kernel_rfl) (by kernel_rfl) ?_
            refine ls_nil (then_normal ?_)
            exact ⟨(fun i => ([x64, x65, x66]).getD i ud), x66, by kernel_rfl, HA_10, H⟩
           ·refine ls_skip (d := some 64) (by kernel_rfl) (by rw [hb_1]; kernel_rfl) ?_
            refine ls_skip (d := some 65) (by kernel_rfl) (by rw [hb_1]; kernel_rfl) ?_
            refine ls_skip (d := some 66) (by kernel_rfl) (by rw [hb_1]; kernel_rfl) ?_
            refine ls_pick_f (y := (.bool false)) (by kernel_rfl) (by rw [hb_1]; kernel_rfl) (by kernel_rfl) ?_
            refine ls_nil (then_normal ?_)
            exact ⟨(fun i => ([ud, ud, ud]).getD i ud), (.bool false), by kernel_rfl, HA_10, H⟩
           ·rintro _ w_11 ⟨D_10, x67, rfl, HA_11, H⟩
            refine ls_assign (x := x67) (by kernel_rfl) (by kernel_rfl) ?_
            refine ls_nil (then_normal ?_)
            refine fr_eq (b := ⟨([x0, x1, x67, x3, x3, x5] ++ (Ad D 3 14 [x20, x21, x22, x22, (D_2 0), (D_2 1), (D_2 2), x27, x27, (D_3 0), (D_3 1), (D_3 2), x32, x32, (D_4 0), (D_4 1), (D_4 2), x37, x37, (D_5 0), (D_5 1), (D_5 2), x42, x42, (D_6 0), (D_6 1), (D_6 2), x47, x47, (D_7 0), (D_7 1), (D_7 2), x52, x52, (D_8 0), (D_8 1), (D_8 2), x57, x57, (D_9 0), (D_9 1), (D_9 2), x62, x62, (D_10 0), (D_10 1), (D_10 2), x67])).toArray, []⟩) (by kernel_rfl) ?_
            refine wp_ret ?_
            exact end1 (Try.results22) (by kernel_rfl) (by kernel_rfl) HA_11 H _ (.inr rfl)

end Go.Proofs.Ytlcklnbgknhhkaa

end

section
/- The shallow reading of one function, and that the function does it. Written by a program. -/
set_option linter.unusedVariables false
namespace Go.Proofs.Ytlcklnbgknhhkaa
open Go Go.HW

def betonyref17_Plain_l1 (R : Value → Heap → Prop) (x0 x1 x5 : Value) (next : Value → Heap → Prop) (x3 : Value) (h_4 : Heap) : Prop :=
  sLt x3 (.int .i64 12) fun x7 =>
  sIf x7 (sIxS x5 x3 1 fun x13 =>
  sLd h_4 x13 fun x14 =>
  sOff x1 3 fun x15 =>
  sIxA x15 x3 12 1 fun x16 =>
  sSt h_4 x16 x14 fun h_5 => 
  sAdd .i64 x3 (.int .i64 1) fun x9 =>
  next x9 h_5) (sLdN h_4 x1 17 fun x17 =>
  sStN h_4 x0 x17 17 fun h_6 => 
  sLdN h_6 x0 17 fun r0 =>
  R r0 h_6)
def betonyref17_Plain_S (h : Heap) (R : Value → Heap → Prop) : Prop :=
  sNew h #[.int .i64 0, .int .i64 0, .int .i64 0, .int .i64 0, .int .i64 0, .int .i64 0, .int .i64 0, .int .i64 0, .int .i64 0, .int .i64 0, .int .i64 0, .int .i64 0, .int .i64 0, .int .i64 0, .int .i64 0, .int .i64 0, .int .i64 0] 28 fun x0 h => 
  sBuild #[.int .i64 0, .int .i64 0, .int .i64 0, .int .i64 0, .int .i64 0, .int .i64 0, .int .i64 0, .int .i64 0, .int .i64 0, .int .i64 0, .int .i64 0, .int .i64 0, .int .i64 0, .int .i64 0, .int .i64 0, .int .i64 0, .int .i64 0] [(0, 1, (.int .i64 84)), (1, 1, (.int .i64 3)), (2, 1, (.int .i64 623)), (15, 1, (.int .i64 1))] fun x4 =>
  sNew h #[.int .i64 0, .int .i64 0, .int .i64 0, .int .i64 0, .int .i64 0, .int .i64 0, .int .i64 0, .int .i64 0, .int .i64 0, .int .i64 0, .int .i64 0, .int .i64 0, .int .i64 0, .int .i64 0, .int .i64 0, .int .i64 0, .int .i64 0] 28 fun x1 h_1 => 
  sStN h_1 x1 x4 17 fun h_2 => 
  sSlit h_2 #[.int .i64 0, .int .i64 0, .int .i64 0, .int .i64 0, .int .i64 0, .int .i64 0, .int .i64 0, .int .i64 0, .int .i64 0, .int .i64 0, .int .i64 0, .int .i64 0] [(0, 1, (.int .i64 3)), (1, 1, (.int .i64 28)), (2, 1, (.int .i64 26)), (3, 1, (.int .i64 4)), (4, 1, (.int .i64 0)), (5, 1, (.int .i64 127)), (6, 1, (.int .i64 21)), (7, 1, (.int .i64 23)), (8, 1, (.int .i64 18)), (9, 1, (.int .i64 22)), (10, 1, (.int .i64 17)), (11, 1, (.int .i64 19))] 3 12 fun x5 h_3 => 
  sLoop (S := Value) (fun nxt s h => betonyref17_Plain_l1 R x0 x1 x5 (fun x3' h => nxt x3' h) s h) (.int .i64 0) h_3
set_option maxRecDepth 100000 in
theorem betonyref17_Plain_runs {h : Heap} {R : Value → Heap → Prop} (H : betonyref17_Plain_S  h R) : betonyref17_Plain_c  h R := by
 unfold betonyref17_Plain_S at H
 refine runs_of (b := ⟨#[ud, ud, ud, ud, ud, ud, ud, ud, ud, ud, ud, ud, ud, ud, ud, ud, ud, ud], []⟩) Try.call14 Try.func14 rfl (by kernel_rfl) (fun w0 HA => ?_)
 refine wp_seq (lwp_list ?_)
 refine ls_d (d := some 0) (by kernel_rfl) (by kernel_rfl) HA (d_alloc Try.zeroValue28 H) (fun x0 h w H HA => ?_)
 refine ls_nil (then_normal ?_)
 refine fr_eq (b := ⟨#[x0, ud, ud, ud, ud, ud, ud, ud, ud, ud, ud, ud, ud, ud, ud, ud, ud, ud], []⟩) (by kernel_rfl) ?_
 refine wp_seq (lwp_list ?_)
 refine ls_p (d := some 4) (by kernel_rfl) (by kernel_rfl) (p_lit (pl := [(0, 1), (1, 1), (2, 1), (3, 12), (15, 1), (16, 1)]) Try.zeroValue28 Try.underlying28 ⟨(by kernel_rfl), Try.sizeOf3, (by kernel_rfl), Try.sizeOf3, (by kernel_rfl), Try.sizeOf3, (by kernel_rfl), Try.sizeOf26, (by kernel_rfl), Try.sizeOf3, (by kernel_rfl), Try.sizeOf3, trivial⟩ (by kernel_rfl) (by kernel_rfl) H) (fun x4 H => ?_)
 refine ls_d (d := some 1) (by kernel_rfl) (by kernel_rfl) HA (d_alloc Try.zeroValue28 H) (fun x1 h_1 w_1 H HA_1 => ?_)
 refine ls_d (d := none) (by kernel_rfl) (by kernel_rfl) HA_1 (d_stn Try.sizeOf28 (by kernel_rfl) (by kernel_rfl) H) (fun _ h_2 w_2 H HA_2 => ?_)
 refine ls_nil (then_normal ?_)
 refine fr_eq (b := ⟨#[x0, x1, ud, ud, x4, ud, ud, ud, ud, ud, ud, ud, ud, ud, ud, ud, ud, ud], []⟩) (by kernel_rfl) ?_
 refine wp_seq (lwp_list ?_)
 refine ls_d (d := some 5) (by kernel_rfl) (by kernel_rfl) HA_2 (d_slit (zc := #[.int .i64 0]) Try.underlying56 Try.sizeOf3 (by decide) (.inr ⟨by decide, _, Try.zeroValue3, (by kernel_rfl)⟩) (by kernel_rfl) (by kernel_rfl) H) (fun x5 h_3 w_3 H HA_3 => ?_)
 refine ls_assign (x := x5) (by kernel_rfl) (by kernel_rfl) ?_
 refine ls_nil (then_normal ?_)
 refine fr_eq (b := ⟨#[x0, x1, x5, ud, x4, x5, ud, ud, ud, ud, ud, ud, ud, ud, ud, ud, ud, ud], []⟩) (by kernel_rfl) ?_
 refine wp_seq ?_
 refine wp_seq (lwp_list ?_)
 refine ls_assign (x := (.int .i64 0)) (by kernel_rfl) (by kernel_rfl) ?_
 refine ls_nil (then_normal ?_)
 refine fr_eq (b := ⟨#[x0, x1, x5, (.int .i64 0), x4, x5, ud, ud, ud, ud, ud, ud, ud, ud, ud, ud, ud, ud], []⟩) (by kernel_rfl) ?_
 refine wp_block ?_
 obtain ⟨I, m, H0, HB⟩ := H
 refine wp_loop (fun a w => ∃ (D : Nat → Value) (x3 : Value) (h_4 : Heap), a = ⟨#[x0, x1, x5, x3, x4, x5, (D 0), (D 1), (D 2), (D 3), (D 4), (D 5), (D 6), (D 7), (D 8), (D 9), (D 10), ud], []⟩ ∧ At w0 w h_4 ∧ I x3 h_4) (fun a w => m (a.tmps.getD 3 ud) w.heap) ?_ ?_
 ·exact ⟨(fun i => (Ap [] 11).getD i ud), (.int .i64 0), h_3, by kernel_rfl, HA_3, H0⟩
 ·rintro _ w_4 ⟨D, x3, h_4, rfl, HA_4, HI⟩
  have H : betonyref17_Plain_l1 R x0 x1 x5 (fun x3' h' => I x3' h' ∧ m x3' h' < m x3 h_4) x3 h_4 := HB x3 h_4 HI
  clear HB H0 HI
  unfold betonyref17_Plain_l1 at H
  refine wp_seq ?_
  refine wp_seq (lwp_list ?_)
  refine ls_move (x := x3) (by kernel_rfl) (by kernel_rfl) ?_
  refine ls_p (d := some 7) (by kernel_rfl) (by kernel_rfl) (p_sLt (by kernel_rfl) (by kernel_rfl) H) (fun x7 H => ?_)
  refine ls_nil (then_normal ?_)
  refine fr_eq (b := ⟨#[x0, x1, x5, x3, x4, x5, x3, x7, (D 2), (D 3), (D 4), (D 5), (D 6), (D 7), (D 8), (D 9), (D 10), ud], []⟩) (by kernel_rfl) ?_
  refine wp_if rfl H (fun H => ?_) (fun H => ?_)
  ·refine wp_skip ?_
   refine then_normal ?_
   refine fr_eq (b := ⟨#[x0, x1, x5, x3, x4, x5, x3, x7, (D 2), (D 3), (D 4), (D 5), (D 6), (D 7), (D 8), (D 9), (D 10), ud], []⟩) (by kernel_rfl) ?_
   refine wp_seq ?_
   refine wp_block ?_
   refine lwp_list ?_
   refine ls_move (x := x3) (by kernel_rfl) (by kernel_rfl) ?_
   refine ls_move (x := x5) (by kernel_rfl) (by kernel_rfl) ?_
   refine ls_move (x := x3) (by kernel_rfl) (by kernel_rfl) ?_
   refine ls_p (d := some 13) (by kernel_rfl) (by kernel_rfl) (p_ixs Try.underlying56 Try.sizeOf3 (by kernel_rfl) (by kernel_rfl) H) (fun x13 H => ?_)
   refine ls_y (d := some 14) (by kernel_rfl) (by kernel_rfl) HA_4 (y_ld Try.isAgg3 (by kernel_rfl) H) (fun x14 H => ?_)
   refine ls_p (d := some 15) (by kernel_rfl) (by kernel_rfl) (p_off Try.underlying28 rfl (fun w => ⟨_, Try.sizeOf26 w⟩) rfl (by kernel_rfl) H) (fun x15 H => ?_)
   refine ls_fr (b := ⟨#[x0, x1, x5, x3, x4, x5, x3, x7, (D 2), (D 3), x3, x5, x3, x13, x14, x15, (D 10), ud], []⟩) (by kernel_rfl) ?_
   refine ls_p (d := some 16) (by kernel_rfl) (by kernel_rfl) (p_ixa Try.underlying26 Try.sizeOf3 (by kernel_rfl) (by kernel_rfl) H) (fun x16 H => ?_)
   refine ls_d (d := none) (by kernel_rfl) (by kernel_rfl) HA_4 (d_st Try.sizeOf3 (by kernel_rfl) (by kernel_rfl) H) (fun _ h_5 w_5 H HA_5 => ?_)
   refine ls_nil ?_
   refine block_normal ?_
   refine then_normal ?_
   refine fr_eq (b := ⟨#[x0, x1, x5, x3, x4, x5, x3, x7, (D 2), (D 3), x3, x5, x3, x13, x14, x15, x16, ud], []⟩) (by kernel_rfl) ?_
   refine lwp_list ?_
   refine ls_move (x := x3) (by kernel_rfl) (by kernel_rfl) ?_
   refine ls_p (d := some 9) (by kernel_rfl) (by kernel_rfl) (p_add (by kernel_rfl) (by kernel_rfl) H) (fun x9 H => ?_)
   refine ls_assign (x := x9) (by kernel_rfl) (by kernel_rfl) ?_
   refine ls_nil ?_
   exact ⟨⟨(fun i => ([x3, x7, x3, x9, x3, x5, x3, x13, x14, x15, x16]).getD i ud), x9, h_5, by kernel_rfl, HA_5, H.1⟩, loop_lt HA_5.heap HA_4.heap (by kernel_rfl) (by kernel_rfl) H.2⟩
  ·refine wp_exit ?_
   refine then_exit ?_
   refine then_exit ?_
   refine block_exit ?_
   refine then_normal ?_
   refine fr_eq (b := ⟨#[x0, x1, x5, x3, x4, x5, x3, x7, (D 2), (D 3), (D 4), (D 5), (D 6), (D 7), (D 8), (D 9), (D 10), ud], []⟩) (by kernel_rfl) ?_
   refine wp_seq (lwp_list ?_)
   refine ls_y (d := some 17) (by kernel_rfl) (by kernel_rfl) HA_4 (y_ldn Try.isAgg28 Try.sizeOf28 (by kernel_rfl) H) (fun x17 H => ?_)
   refine ls_d (d := none) (by kernel_rfl) (by kernel_rfl) HA_4 (d_stn Try.sizeOf28 (by kernel_rfl) (by kernel_rfl) H) (fun _ h_6 w_6 H HA_6 => ?_)
   refine ls_nil (then_normal ?_)
   refine fr_eq (b := ⟨#[x0, x1, x5, x3, x4, x5, x3, x7, (D 2), (D 3), (D 4), (D 5), (D 6), (D 7), (D 8), (D 9), (D 10), x17], []⟩) (by kernel_rfl) ?_
   refine wp_ret ?_
   obtain ⟨r0, hr0, H⟩ := ld_n Try.isAgg28 Try.sizeOf28 H
   exact endR (vs := [r0]) (Try.results14) (by kernel_rfl) ⟨⟨_, (by kernel_rfl), hr0⟩, trivial⟩ HA_6 H _ (.inr rfl)

end Go.Proofs.Ytlcklnbgknhhkaa

end

section
/- Settings of terminals: what each function answers. -/
set_option linter.unusedSimpArgs false
namespace Go.Proofs.Ytlcklnbgknhhkaa
open Go Go.HW

structure Tm where
  i : Int
  o : Int
  l : Int
  cc : Nat → Int
  m : Int
  t : Int
def Tm.e (t : Tm) : List Value := [.int .i64 t.i, .int .i64 t.o, .int .i64 t.l, .int .i64 (t.cc 0), .int .i64 (t.cc 1), .int .i64 (t.cc 2), .int .i64 (t.cc 3), .int .i64 (t.cc 4), .int .i64 (t.cc 5), .int .i64 (t.cc 6), .int .i64 (t.cc 7), .int .i64 (t.cc 8), .int .i64 (t.cc 9), .int .i64 (t.cc 10), .int .i64 (t.cc 11), .int .i64 t.m, .int .i64 t.t]
def Tm.ccA (t : Tm) : Array Value := #[.int .i64 (t.cc 0), .int .i64 (t.cc 1), .int .i64 (t.cc 2), .int .i64 (t.cc 3), .int .i64 (t.cc 4), .int .i64 (t.cc 5), .int .i64 (t.cc 6), .int .i64 (t.cc 7), .int .i64 (t.cc 8), .int .i64 (t.cc 9), .int .i64 (t.cc 10), .int .i64 (t.cc 11)]
def Tm.c (t : Tm) : Array Value := t.e.toArray
def Tm.v (t : Tm) : Value := .agg t.c
theorem Tm.cell1 (t : Tm) : ∀ u ∈ t.c.toList, Cell1 u := by
  intro u hu
  simp [Tm.c, Tm.e] at hu
  rcases hu with rfl | rfl | rfl | rfl | rfl | rfl | rfl | rfl | rfl | rfl | rfl | rfl | rfl | rfl | rfl | rfl | rfl <;> trivial
theorem Tm.at_cc (t : Tm) : ∀ j, j < 12 → t.c[3 + j]? = some (.int .i64 (t.cc j))
  | 0, _ | 1, _ | 2, _ | 3, _ | 4, _ | 5, _ | 6, _ | 7, _ | 8, _ | 9, _ | 10, _ | 11, _ => rfl
  | n + 12, h => by omega
theorem Tm.at_ccA (t : Tm) : ∀ j, j < 12 → t.ccA[j]? = some (.int .i64 (t.cc j))
  | 0, _ | 1, _ | 2, _ | 3, _ | 4, _ | 5, _ | 6, _ | 7, _ | 8, _ | 9, _ | 10, _ | 11, _ => rfl
  | n + 12, h => by omega

def Tm.map (t : Tm) (c : Int) : Int × Bool :=
  let d := if hasB t.i 1 = true then c % 128 else c
  if (d == 13 && hasB t.i 2) = true then (0, false) else if (d == 13 && hasB t.i 4) = true then (10, true) else if (d == 10 && hasB t.i 8) = true then (13, true) else (d, true)
def byteB (n : Int) : Bool := decide (0 ≤ n) && decide (n ≤ 255)
def witB (n a : Int) : Bool := decide (0 ≤ n) && decide (n ≤ a)
def Tm.ccOk (t : Tm) (n : Nat) : Bool := (List.range n).all fun j => byteB (t.cc j)
def Tm.right (t : Tm) : Bool := t.ccOk 12 && ((((witB t.i 127 && witB t.o 63) && witB t.l 1023) && byteB t.m) && byteB t.t)
def Tm.is (t : Tm) (w c : Int) : Bool := decide (0 ≤ w) && decide (w < 12) && (c != 0) && (t.cc w.toNat == c)
def Tm.raw (t : Tm) : Tm := ⟨0, 0, bitsOf .and .i64 t.l 256, t.cc, 1, 0⟩
def plainCc : Nat → Int
  | 0 => 3 | 1 => 28 | 2 => 26 | 3 => 4 | 4 => 0 | 5 => 127 | 6 => 21 | 7 => 23 | 8 => 18 | 9 => 22 | 10 => 17 | 11 => 19 | _ => 0
def plainT : Tm := ⟨84, 3, 623, plainCc, 1, 0⟩

section
variable {h : Heap} {R : Value → Heap → Prop}
theorem isByte_spec {n : Int} (H : R (.bool (byteB n)) h) : termios_isByte_c (.int .i64 n) h R := by
  apply termios_isByte_runs
  unfold termios_isByte_S
  simp only [ev_ge, ev_le, ev_and_p]
  exact H
theorem within_spec {n a : Int} (H : R (.bool (witB n a)) h) : termios_within_c (.int .i64 n) (.int .i64 a) h R := by
  apply termios_within_runs
  unfold termios_within_S
  simp only [ev_ge, ev_le, ev_and_p]
  exact H
theorem hasr_spec {n f : Int} (H : R (.bool (hasB n f)) h) : betonyref17_Has_c (.int .i64 n) (.int .i64 f) h R := by
  apply betonyref17_Has_runs
  unfold betonyref17_Has_S
  simp only [ev_bits, ev_ne]
  exact H
theorem map_spec {t : Tm} {c : Int} (hc : 0 ≤ c ∧ c < 256) (H : ∀ h', Ext h h' → R (.tuple #[.int .u8 (t.map c).1, .bool (t.map c).2]) h') : termios_Map_c t.v (.int .u8 c) h R := by
  apply termios_Map_runs
  unfold termios_Map_S
  refine (HW.Sep.start h).box (c := t.c) rfl (fun k h1 s => ?_)
  have f0 : ∀ {K : Value → Prop}, sLd h1 (ptr k 0) K = K (.int .i64 t.i) := s.ld rfl
  have hh : ∀ f, (bitsOf .and .i64 t.i f != 0) = hasB t.i f := fun _ => rfl
  simp only [ev_off, Nat.zero_add, f0, ev_bits, ev_ne, hh, ev_if, and_127 c hc.1 hc.2]
  have key : ∀ d, d = (if hasB t.i 1 = true then c % 128 else c) → termios_Map_j1 R (ptr k 0) (.int .u8 d) h1 := by
    intro d hd
    unfold termios_Map_j1
    simp only [ev_off, Nat.zero_add, f0, ev_bits, ev_ne, hh, ev_eq, ev_and_p, ev_if]
    have e : t.map c = (if (d == 13 && hasB t.i 2) = true then (0, false) else if (d == 13 && hasB t.i 4) = true then (10, true) else if (d == 10 && hasB t.i 8) = true then (13, true) else (d, true)) := by
      unfold Tm.map; rw [← hd]
    have H1 := H h1 s.ext
    rw [e] at H1
    split
    · rename_i h1; rw [if_pos h1] at H1; exact H1
    · rename_i h1; rw [if_neg h1] at H1
      split
      · rename_i h2; rw [if_pos h2] at H1; exact H1
      · rename_i h2; rw [if_neg h2] at H1
        split
        · rename_i h3; rw [if_pos h3] at H1; exact H1
        · rename_i h3; rw [if_neg h3] at H1; exact H1
  split
  · rename_i h1; exact key _ (by rw [if_pos h1])
  · rename_i h1; exact key _ (by rw [if_neg h1])
theorem rmap_spec {t : Tm} {c : Int} (hc : 0 ≤ c ∧ c < 256) (H : ∀ h', Ext h h' → R (.int .i64 (if (t.map c).2 = true then (t.map c).1 else -1)) h') : betonyref17_Map_c t.v (.int .u8 c) h R := by
  apply betonyref17_Map_runs
  unfold betonyref17_Map_S
  refine (HW.Sep.start h).box (c := t.c) rfl (fun k h1 s => ?_)
  have f0 : ∀ {K : Value → Prop}, sLd h1 (ptr k 0) K = K (.int .i64 t.i) := s.ld rfl
  rw [ev_conv, wrap_i64 (by omega) (by omega)]
  simp only [ev_off, Nat.zero_add, f0]
  refine hasr_spec ?_
  have key : ∀ d, d = (if hasB t.i 1 = true then c % 128 else c) → betonyref17_Map_j1 R (ptr k 0) (.int .i64 d) h1 := by
    intro d hd
    have e : t.map c = (if (d == 13 && hasB t.i 2) = true then (0, false) else if (d == 13 && hasB t.i 4) = true then (10, true) else if (d == 10 && hasB t.i 8) = true then (13, true) else (d, true)) := by
      unfold Tm.map; rw [← hd]
    rw [e] at H
    unfold betonyref17_Map_j1
    simp only [ev_off, Nat.zero_add, f0, ev_eq]
    refine and_ext (y := hasB t.i 2) (fun _ K' HK => hasr_spec (HK _ (Ext.refl _))) (fun h2 e2 => ?_)
    have s2 := s.ext' e2
    have f2 : ∀ {K : Value → Prop}, sLd h2 (ptr k 0) K = K (.int .i64 t.i) := s2.ld rfl
    rw [ev_if]
    split
    · rename_i h1
      have := H h2 s2.ext
      rw [if_pos h1] at this; exact this
    rename_i h1
    rw [if_neg h1] at H
    refine and_ext (y := hasB t.i 4) (fun _ K' HK => by simp only [f2]; exact hasr_spec (HK _ (Ext.refl _))) (fun h3 e3 => ?_)
    have s3 := s2.ext' e3
    have f3 : ∀ {K : Value → Prop}, sLd h3 (ptr k 0) K = K (.int .i64 t.i) := s3.ld rfl
    rw [ev_if]
    split
    · rename_i h1
      have := H h3 s3.ext
      rw [if_pos h1] at this; exact this
    rename_i h1
    rw [if_neg h1] at H
    refine and_ext (y := hasB t.i 8) (fun _ K' HK => by simp only [f3]; exact hasr_spec (HK _ (Ext.refl _))) (fun h4 e4 => ?_)
    rw [ev_if]
    split
    · rename_i h1
      have := H h4 (s3.ext' e4).ext
      rw [if_pos h1] at this; exact this
    rename_i h1
    have := H h4 (s3.ext' e4).ext
    rw [if_neg h1] at this; exact this
  rw [ev_if]
  split
  · rename_i h1
    rw [ev_rem (by decide), Int.tmod_eq_emod_of_nonneg hc.1]
    exact key _ (by rw [if_pos h1])
  · rename_i h1; exact key _ (by rw [if_neg h1])
theorem is_spec {t : Tm} {w c : Int} (hc : 0 ≤ c ∧ c < 256) (H : ∀ h', Ext h h' → R (.bool (t.is w c)) h') : termios_Is_c t.v (.int .i64 w) (.int .u8 c) h R := by
  apply termios_Is_runs
  unfold termios_Is_S
  refine (HW.Sep.start h).box (c := t.c) rfl (fun k h1 s => ?_)
  have H1 := H h1 s.ext
  simp only [ev_ge, ev_lt, ev_and_p, ev_ne, ev_off, Nat.zero_add]
  rw [ev_and]
  unfold Tm.is at H1
  split
  · rename_i h1
    rw [h1, Bool.true_and] at H1
    simp only [Bool.and_eq_true, decide_eq_true_eq] at h1
    obtain ⟨n, rfl⟩ := Int.eq_ofNat_of_zero_le h1.1.1
    have hn : n < 12 := by omega
    have : sIxA (ptr k 3) (.int .i64 (n : Int)) 12 1 = fun K => K (ptr k (3 + n)) := by
      funext K
      exact propext ⟨fun ⟨_, _, _, _, e1, e2, _, _, x⟩ => by cases e1; cases e2; simpa using x, fun x => ⟨k, 3, .i64, n, rfl, rfl, by omega, by omega, by simpa using x⟩⟩
    rw [this]
    simp only
    rw [s.ld (t.at_cc n hn), ev_conv, wrap_i64 (by omega) (by omega), ev_eq]
    simpa using H1
  · rename_i h1
    rw [show (decide (0 ≤ w) && decide (w < 12) && (c != 0)) = false by simpa using h1] at H1
    simpa using H1
end
theorem ixA {k o : Nat} {n j : Nat} {q : IntKind} {K : Value → Prop} (hj : j < n) : sIxA (ptr k o) (.int q (j : Int)) n 1 K = K (ptr k (o + j)) :=
  propext ⟨fun ⟨_, _, _, _, e1, e2, _, _, x⟩ => by cases e1; cases e2; simpa using x, fun x => ⟨k, o, q, j, rfl, rfl, by omega, by omega, by simpa using x⟩⟩
theorem ixV {cs : Array Value} {n j : Nat} {q : IntKind} {v : Value} {K : Value → Prop} (hj : j < n) (hv : cs[j]? = some v) : sIxV (.agg cs) (.int q (j : Int)) n K = K v :=
  propext ⟨fun ⟨_, _, _, _, e1, e2, _, _, hu, x⟩ => by cases e1; cases e2; simp only [Int.toNat_natCast] at hu; rw [hv] at hu; cases hu; exact x, fun x => ⟨cs, q, j, v, rfl, rfl, by omega, by omega, by simpa using hv, x⟩⟩

section
variable {h : Heap} {R : Value → Heap → Prop}
theorem ris_spec {t : Tm} {w c : Int} (H : ∀ h', Ext h h' → R (.bool (t.is w c)) h') : betonyref17_Is_c t.v (.int .i64 w) (.int .i64 c) h R := by
  apply betonyref17_Is_runs
  unfold betonyref17_Is_S
  refine (HW.Sep.start h).box (c := t.c) rfl (fun k h1 s => ?_)
  have H1 := H h1 s.ext
  simp only [ev_ge, ev_lt, ev_and_p, ev_ne, ev_off, Nat.zero_add]
  rw [ev_and]
  unfold Tm.is at H1
  split
  · rename_i h1
    rw [h1, Bool.true_and] at H1
    simp only [Bool.and_eq_true, decide_eq_true_eq] at h1
    obtain ⟨n, rfl⟩ := Int.eq_ofNat_of_zero_le h1.1.1
    have hn : n < 12 := by omega
    rw [ixA hn, s.ld (t.at_cc n hn), ev_eq]
    simpa using H1
  · rename_i h1
    rw [show (decide (0 ≤ w) && decide (w < 12) && (c != 0)) = false by simpa using h1] at H1
    simpa using H1
theorem ccOk_succ (t : Tm) (n : Nat) : t.ccOk (n + 1) = (t.ccOk n && byteB (t.cc n)) := by
  unfold Tm.ccOk; rw [List.range_succ, List.all_append]; simp
theorem ccOk_false {t : Tm} {n : Nat} (hn : n < 12) (h : byteB (t.cc n) = false) : t.right = false := by
  unfold Tm.right
  have : t.ccOk 12 = false := by
    unfold Tm.ccOk
    rw [List.all_eq_false]
    exact ⟨n, List.mem_range.2 hn, by rw [h]; decide⟩
  rw [this, Bool.false_and]
theorem tright_spec {t : Tm} (H : ∀ h', Ext h h' → R (.bool t.right) h') : termios_Right_c t.v h R := by
  apply termios_Right_runs
  unfold termios_Right_S
  refine (HW.Sep.start h).box (c := t.c) rfl (fun k h1 s => ?_)
  rw [ev_off, s.ldn (o := 0 + 3) (n := 12) (Nat.le_of_ble_eq_true rfl)]
  rw [show t.c.extract (0 + 3) (0 + 3 + 12) = t.ccA from rfl]
  refine ⟨fun s h' => ∃ j : Nat, s = .int .i64 j ∧ j ≤ 12 ∧ h' = h1 ∧ t.ccOk j = true, fun s _ => match s with | .int _ j => (12 - j).toNat | _ => 0, ⟨0, rfl, by omega, rfl, rfl⟩, ?_⟩
  rintro _ h' ⟨j, rfl, hj, rfl, hok⟩
  simp only []
  unfold termios_Right_l1
  simp only [ev_lt, ev_if, decide_eq_true_eq]
  by_cases hj2 : j < 12
  · rw [if_pos (by omega), ixV hj2 (t.at_ccA j hj2)]
    refine isByte_spec ?_
    rw [ev_not, ev_if]
    cases hb : byteB (t.cc j) with
    | false =>
      rw [if_pos (by decide), ← ccOk_false hj2 hb]; exact H _ s.ext
    | true =>
      rw [if_neg (by decide), ev_add, wrap_i64 (by omega) (by omega)]
      exact ⟨⟨j + 1, rfl, by omega, by first | rfl | trivial, by rw [ccOk_succ, hok, hb]; rfl⟩, by simp only []; omega⟩
  · rw [if_neg (by omega)]
    have : j = 12 := by omega
    subst this
    have f : ∀ {o : Nat} {v : Value} {K : Value → Prop}, t.c[o]? = some v → sLd h' (ptr k o) K = K v := fun hv => s.ld hv
    simp only [ev_off, Nat.zero_add]
    rw [f (o := 0) (v := .int .i64 t.i) rfl]
    refine within_spec ?_
    refine and_ext (y := witB t.o 63) (fun _ K' HK => by rw [f (o := 1) (v := .int .i64 t.o) rfl]; exact within_spec (HK _ (Ext.refl _))) (fun h2 e2 => ?_)
    have s2 := s.ext' e2
    refine and_ext (y := witB t.l 1023) (fun _ K' HK => by rw [s2.ld (o := 2) (v := .int .i64 t.l) rfl]; exact within_spec (HK _ (Ext.refl _))) (fun h3 e3 => ?_)
    have s3 := s2.ext' e3
    refine and_ext (y := byteB t.m) (fun _ K' HK => by rw [s3.ld (o := 15) (v := .int .i64 t.m) rfl]; exact isByte_spec (HK _ (Ext.refl _))) (fun h4 e4 => ?_)
    have s4 := s3.ext' e4
    refine and_ext (y := byteB t.t) (fun _ K' HK => by rw [s4.ld (o := 16) (v := .int .i64 t.t) rfl]; exact isByte_spec (HK _ (Ext.refl _))) (fun h5 e5 => ?_)
    have := H h5 (s4.ext' e5).ext
    unfold Tm.right at this
    rw [hok, Bool.true_and] at this
    exact this
theorem rright_spec {t : Tm} (H : ∀ h', Ext h h' → R (.bool t.right) h') : betonyref17_Right_c t.v h R := by
  apply betonyref17_Right_runs
  unfold betonyref17_Right_S
  refine (HW.Sep.start h).box (c := t.c) rfl (fun k h1 s => ?_)
  refine ⟨fun s h' => ∃ j : Nat, s = .int .i64 j ∧ j ≤ 12 ∧ h' = h1 ∧ t.ccOk j = true, fun s _ => match s with | .int _ j => (12 - j).toNat | _ => 0, ⟨0, rfl, by omega, rfl, rfl⟩, ?_⟩
  rintro _ h' ⟨j, rfl, hj, rfl, hok⟩
  simp only []
  unfold betonyref17_Right_l1
  simp only [ev_lt, ev_if, decide_eq_true_eq, ev_off, Nat.zero_add]
  by_cases hj2 : j < 12
  · rw [if_pos (by omega)]
    have ix : ∀ {K : Value → Prop}, sIxA (ptr k 3) (.int .i64 (j : Int)) 12 1 K = K (ptr k (3 + j)) := ixA hj2
    have f : ∀ {K : Value → Prop}, sLd h' (ptr k (3 + j)) K = K (.int .i64 (t.cc j)) := s.ld (t.at_cc j hj2)
    simp only [ix, f, ev_lt, ev_gt, ev_or_p, ev_if]
    have hb : (decide (t.cc j < 0) || decide (255 < t.cc j)) = !byteB (t.cc j) := by
      unfold byteB
      rw [Bool.eq_iff_iff]
      simp only [Bool.or_eq_true, decide_eq_true_eq, Bool.not_eq_true', Bool.and_eq_false_iff, decide_eq_false_iff_not]
      omega
    rw [hb]
    cases hb : byteB (t.cc j) with
    | false =>
      rw [if_pos (by decide), ← ccOk_false hj2 hb]; exact H _ s.ext
    | true =>
      rw [if_neg (by decide), ev_add, wrap_i64 (by omega) (by omega)]
      exact ⟨⟨j + 1, rfl, by omega, by first | rfl | trivial, by rw [ccOk_succ, hok, hb]; rfl⟩, by simp only []; omega⟩
  · rw [if_neg (by omega)]
    have : j = 12 := by omega
    subst this
    have f0 : ∀ {K : Value → Prop}, sLd h' (ptr k 0) K = K (.int .i64 t.i) := s.ld rfl
    have f1 : ∀ {K : Value → Prop}, sLd h' (ptr k 1) K = K (.int .i64 t.o) := s.ld rfl
    have f2 : ∀ {K : Value → Prop}, sLd h' (ptr k 2) K = K (.int .i64 t.l) := s.ld rfl
    have f3 : ∀ {K : Value → Prop}, sLd h' (ptr k 15) K = K (.int .i64 t.m) := s.ld rfl
    have f4 : ∀ {K : Value → Prop}, sLd h' (ptr k 16) K = K (.int .i64 t.t) := s.ld rfl
    simp only [f0, f1, f2, f3, f4, ev_ge, ev_le, ev_and_p]
    have := H h' s.ext
    unfold Tm.right witB byteB at this
    rw [hok, Bool.true_and] at this
    simpa only [Bool.and_assoc] using this
def partT (n : Nat) : Tm := ⟨84, 3, 623, fun j => if j < n then plainCc j else 0, 1, 0⟩
theorem part_set : ∀ n, n < 12 → (partT n).c.setIfInBounds (3 + n) (.int .i64 (plainCc n)) = (partT (n + 1)).c
  | 0, _ | 1, _ | 2, _ | 3, _ | 4, _ | 5, _ | 6, _ | 7, _ | 8, _ | 9, _ | 10, _ | 11, _ => rfl
  | n + 12, h => by omega
def plainL : List Int := [3, 28, 26, 4, 0, 127, 21, 23, 18, 22, 17, 19]
theorem plainL_at : ∀ n, n < 12 → plainL[n]? = some (plainCc n)
  | 0, _ | 1, _ | 2, _ | 3, _ | 4, _ | 5, _ | 6, _ | 7, _ | 8, _ | 9, _ | 10, _ | 11, _ => rfl
  | n + 12, h => by omega
theorem rplain_spec (H : ∀ h', Ext h h' → R plainT.v h') : betonyref17_Plain_c h R := by
  apply betonyref17_Plain_runs
  unfold betonyref17_Plain_S
  refine (HW.Sep.start h).new (fun k h1 s => ?_)
  refine build_intro (cs := (partT 0).c) (fill_k (by kernel_rfl)) ?_
  refine s.new (fun k2 h2 s2 => ?_)
  refine s2.stall (cs := (partT 0).c) rfl rfl (partT 0).cell1 (fun h3 s3 => ?_)
  refine s3.slit (enc := encI .i64) (sz := 1) (encI_len _) plainL rfl (fill_k (by kernel_rfl)) (fun v h4 _ s4 => ?_)
  refine ⟨fun s h' => ∃ j : Nat, s = .int .i64 j ∧ j ≤ 12 ∧ HW.Sep h [Sl (encI .i64) 1 v plainL, Blk k2 (partT j).c 28, Blk k #[.int .i64 0, .int .i64 0, .int .i64 0, .int .i64 0, .int .i64 0, .int .i64 0, .int .i64 0, .int .i64 0, .int .i64 0, .int .i64 0, .int .i64 0, .int .i64 0, .int .i64 0, .int .i64 0, .int .i64 0, .int .i64 0, .int .i64 0] 28] h', fun s _ => match s with | .int _ j => (12 - j).toNat | _ => 0, ⟨0, rfl, by omega, s4⟩, ?_⟩
  rintro _ h' ⟨j, rfl, hj, s5⟩
  simp only []
  unfold betonyref17_Plain_l1
  simp only [ev_lt, ev_if, decide_eq_true_eq, ev_off, Nat.zero_add]
  by_cases hj2 : j < 12
  · rw [if_pos (by omega), s5.seq.ld (plainL_at j hj2) rfl, ixA hj2]
    refine s5.b1.st (by show 3 + j < 17; omega) trivial (fun h6 s6 => ?_)
    rw [part_set j hj2] at s6
    rw [ev_add, wrap_i64 (by omega) (by omega)]
    exact ⟨⟨j + 1, rfl, by omega, s6.b1⟩, by simp only []; omega⟩
  · rw [if_neg (by omega)]
    have : j = 12 := by omega
    subst this
    rw [s5.b1.ldall (n := 17) rfl]
    refine s5.b2.stall (cs := plainT.c) rfl rfl plainT.cell1 (fun h7 s7 => ?_)
    rw [s7.ldall (n := 17) rfl]
    exact H _ s7.ext
end
abbrev ks17 : List (Option IntKind) := [some .i64, some .i64, some .i64, some .i64, some .i64, some .i64, some .i64, some .i64, some .i64, some .i64, some .i64, some .i64, some .i64, some .i64, some .i64, some .i64, some .i64]
theorem okC_tm (t : Tm) : okC ks17 t.c.toList := by simp [Tm.c, Tm.e, okC]
theorem eqVs_self : ∀ {ks : List (Option IntKind)} {l : List Value}, okC ks l → eqVs l l = true
  | [], [], _ => rfl
  | some k :: ks, .int _ a :: l, h => by simp [eqVs, eqV, eqVs_self h.2]
  | none :: ks, .bool a :: l, h => by simp [eqVs, eqV, eqVs_self (ks := ks) h]

theorem map_rng (t : Tm) {c : Int} (hc : 0 ≤ c ∧ c < 256) : 0 ≤ (t.map c).1 ∧ (t.map c).1 < 256 := by
  unfold Tm.map
  simp only
  have : 0 ≤ (if hasB t.i 1 = true then c % 128 else c) ∧ (if hasB t.i 1 = true then c % 128 else c) < 256 := by split <;> omega
  generalize (if hasB t.i 1 = true then c % 128 else c) = d at *
  split
  · simp
  · split
    · simp
    · split
      · simp
      · exact this
theorem map_zero (t : Tm) {c : Int} (h : (t.map c).2 = false) : (t.map c).1 = 0 := by
  unfold Tm.map at *
  simp only at *
  generalize (if hasB t.i 1 = true then c % 128 else c) = d at *
  by_cases h1 : (d == 13 && hasB t.i 2) = true
  · rw [if_pos h1]
  · rw [if_neg h1] at h
    split at h
    · cases h
    · split at h <;> cases h
theorem tm_of {h : Heap} {cs : List Value} (r : Rep (.agg (.cons (.int .i64) (.cons (.int .i64) (.cons (.int .i64) (.cons (.agg (.cons (.int .i64) (.cons (.int .i64) (.cons (.int .i64) (.cons (.int .i64) (.cons (.int .i64) (.cons (.int .i64) (.cons (.int .i64) (.cons (.int .i64) (.cons (.int .i64) (.cons (.int .i64) (.cons (.int .i64) (.cons (.int .i64) .nil))))))))))))) (.cons (.int .i64) (.cons (.int .i64) .nil))))))) h cs) : ∃ t : Tm, cs = t.e := by
  obtain ⟨_, _, rfl, ⟨i, rfl, _⟩, _, _, rfl, ⟨o, rfl, _⟩, _, _, rfl, ⟨l, rfl, _⟩, _, _, rfl, ⟨_, _, rfl, ⟨c0, rfl, _⟩, ⟨_, _, rfl, ⟨c1, rfl, _⟩, ⟨_, _, rfl, ⟨c2, rfl, _⟩, ⟨_, _, rfl, ⟨c3, rfl, _⟩, ⟨_, _, rfl, ⟨c4, rfl, _⟩, ⟨_, _, rfl, ⟨c5, rfl, _⟩, ⟨_, _, rfl, ⟨c6, rfl, _⟩, ⟨_, _, rfl, ⟨c7, rfl, _⟩, ⟨_, _, rfl, ⟨c8, rfl, _⟩, ⟨_, _, rfl, ⟨c9, rfl, _⟩, ⟨_, _, rfl, ⟨c10, rfl, _⟩, ⟨_, _, rfl, ⟨c11, rfl, _⟩, rfl⟩⟩⟩⟩⟩⟩⟩⟩⟩⟩⟩⟩, _, _, rfl, ⟨m, rfl, _⟩, _, _, rfl, ⟨t, rfl, _⟩, rfl⟩ := r
  exact ⟨⟨i, o, l, fun j => match j with | 0 => c0 | 1 => c1 | 2 => c2 | 3 => c3 | 4 => c4 | 5 => c5 | 6 => c6 | 7 => c7 | 8 => c8 | 9 => c9 | 10 => c10 | 11 => c11 | _ => 0, m, t⟩, rfl⟩
end Go.Proofs.Ytlcklnbgknhhkaa

end

section
/- A new slice of whatever bytes (internal/bytealg.MakeNoZero); a slice of three. -/
namespace Go.HW
open Go

def sSl3 (x : Value) (lo : Option Value) (hi mx : Value) (sz : Nat) (K : Value → Prop) : Prop := ∃ (a : Option Addr) (n c l h m : Nat) (k k' : IntKind), x = .slice a n c ∧ bnd lo 0 l ∧ hi = .int k (h : Int) ∧ mx = .int k' (m : Int) ∧ l ≤ h ∧ h ≤ m ∧ m ≤ c ∧ K (cutV a l h m sz)
theorem run_bounds3 {P : Program} (w : World) {lo : Option Value} {n c l h m : Nat} {k k' : IntKind} (hl : bnd lo 0 l) (h1 : l ≤ h) (h2 : h ≤ m) (h3 : m ≤ c) : (Instr.sliceBounds true n c lo (some (.int k (h : Int))) (some (.int k' (m : Int)))).run P w = .ok (l, h, m) w := by
  have b1 : ∀ (y : Nat) (q : Nat) (code : BoundsCode) (k : IntKind), q ≤ y → (Instr.sliceBound (.int k (q : Int)) y code).run P w = .ok q w := fun y q code k hq => by
    unfold Instr.sliceBound
    have : (0 : Int) ≤ (q : Int) ∧ (q : Int) ≤ (y : Int) := by omega
    simp [go_sem, asIntOf, hq]
  unfold Instr.sliceBounds
  cases lo with
  | none => simp only [bnd] at hl; subst hl; simp [go_sem, b1 c m _ k' h3, b1 m h _ k h2]; intro hlt; omega
  | some x =>
    obtain ⟨k2, rfl⟩ := hl
    simp [go_sem, b1 c m _ k' h3, b1 m h _ k h2, b1 h l _ k2 h1]; rw [if_pos h2, if_pos h1]
/-- n bytes anew, of whatever values, with room for more. -/
def sMkNZ (h : Heap) (x : Value) (e : Nat) (K : Value → Heap → Prop) : Prop := ∃ n : Nat, x = .int .i64 (n : Int) ∧ n ≤ 281474976710656 ∧ ∀ bs : List Int, n ≤ bs.length → (n ≤ maxLen → bs.length ≤ maxLen) → K (.slice (some ⟨h.size, 0, none⟩) n bs.length) (h.push (.cells (bs.map fun b => Value.int .u8 b).toArray e))
theorem digits_u8 : ∀ (n t : Nat) (acc : Array Value) (b : List Int), acc = (b.map fun x => Value.int .u8 x).toArray → ∃ bs : List Int, Extern.BytealgMakeNoZero.digits n t acc = (bs.map fun x => Value.int .u8 x).toArray ∧ bs.length = b.length + n
  | 0, t, acc, b, h => ⟨b, h, rfl⟩
  | n + 1, t, acc, b, h => by
    obtain ⟨bs, e, l⟩ := digits_u8 n (t / 256) (acc.push (.int .u8 (Int.ofNat (t % 256)))) (b ++ [Int.ofNat (t % 256)]) (by rw [h]; simp)
    exact ⟨bs, e, by rw [l]; simp; omega⟩
theorem run_mnz {P : Program} (w : World) (ps : Array TypeId) (t e : TypeId) (ht : P.underlying t = some (.slice e)) (n : Nat) (hn : n ≤ 281474976710656) :
    ∃ bs : List Int, (Extern.BytealgMakeNoZero.makeNoZero ps #[t] #[.int .i64 n]).run P w = .ok (.slice (some ⟨w.heap.size, 0, none⟩) n bs.length) (w.drew.drew.alloc (.cells (bs.map fun b => Value.int .u8 b).toArray e)) ∧ n ≤ bs.length ∧ (n ≤ maxLen → bs.length ≤ maxLen) := by
  have hdef : Extern.BytealgMakeNoZero.makeNoZero ps #[t] #[.int .i64 n] =
      (do
        let .slice elem ← underlying t | stuck "bytealg.MakeNoZero: slice type expected"
        if (n : Int) < 0 || (n : Int) > 2 ^ 48 then runtimePanic (.error "makeslice: len out of range")
        let cap ← choose (.appendCap (n : Int).toNat 0 elem)
        askRoom cap
        let bytes ← choose (.extern "internal/bytealg.MakeNoZero.bytes" 0)
        let a ← newRow elem (Extern.BytealgMakeNoZero.digits cap bytes #[])
        pure (.slice (some a) (n : Int).toNat cap)) := rfl
  obtain ⟨bs, e1, l1⟩ := digits_u8 (grownCap w n 0 e) ((Question.extern "internal/bytealg.MakeNoZero.bytes" 0).cut (w.tape (w.drawn + 1) (.extern "internal/bytealg.MakeNoZero.bytes" 0))) #[] [] rfl
  have hr : (Extern.BytealgMakeNoZero.makeNoZero ps #[t] #[.int .i64 n]).run P w = .ok (.slice (some ⟨w.heap.size, 0, none⟩) n bs.length) (w.drew.drew.alloc (.cells (bs.map fun b => Value.int .u8 b).toArray e)) := by
    rw [hdef]
    have k1 : ¬ (n : Int) < 0 := by omega
    have k2 : ¬ (281474976710656 : Int) < (n : Int) := by omega
    rw [← e1, l1]
    simp [run_underlying ht, k1, k2, Question.forced, newRow, grownCap]
  have l1 : bs.length = grownCap w n 0 e := by rw [l1]; simp
  refine ⟨bs, hr, ?_, fun hm => ?_⟩
  · rw [l1]; exact grownCap_ge w n 0 e
  · rw [l1]; exact grownCap_le_maxLen w n 0 e hm
section
variable {P : Program} {ρ : Operand → Value}
variable {dst : Option Tmp} {tp : TypeId} {pos : String} {after : Array Edge} {g : Option (Nat × Bool)}
theorem p_sl3 {X Y Z : Operand} {x y z : Value} {t e sz : Nat} {lo : Option Operand} {vl : Option Value} {K : Value → Prop} (ht : P.underlying t = some (.slice e)) (hs : ∀ w, (sizeOf e).run P w = .ok sz w) (hx : ρ X = x) (hl : lo.map ρ = vl) (hy : ρ Y = y) (hz : ρ Z = z) (H : sSl3 x vl y z sz K) :
    ∃ v, PY P ρ ⟨dst, .slice t X lo (some Y) (some Z), tp, pos, after, g⟩ v ∧ K v := by
  obtain ⟨a, n, c, l, h, m, k, k', rfl, h1, rfl, rfl, h3, h4, h5, hk⟩ := H
  refine ⟨_, fun w => ?_, hk⟩
  have hu' : ∀ w, (underlying t).run P w = .ok (.slice e) w := fun w => by simp [underlying, go_sem, ht]
  have e1 : execOp ρ ⟨dst, .slice t X lo (some Y) (some Z), tp, pos, after, g⟩ = Sem.bind (Instr.sliceAt t (ρ X) (lo.map ρ) (some (ρ Y)) (some (ρ Z))) fun v => Sem.pure (Next.value v) := rfl
  have hb := run_bounds3 (P := P) w (n := n) (k := k) (k' := k') h1 h3 h4 h5
  have : (Instr.sliceAt t (.slice a n c) vl (some (.int k (h : Int))) (some (.int k' (m : Int)))).run P w = .ok (cutV a l h m sz) w := by
    unfold Instr.sliceAt
    simp only [Sem.run_bind, hu', Result.andThen_ok]
    unfold Instr.slice
    simp only [Sem.run_bind, hu', Result.andThen_ok, hb, hs, Sem.run_pure]
    rfl
  rw [e1, hx, hl, hy, hz, run_bindS, this]
  rfl
theorem d_mnz {h : Heap} {K : Value → Heap → Prop} {f : FuncId} {fn : Func} {X : Operand} {x : Value} {ts : Array TypeId} {ps : Array TypeId} {t e : Nat} (hf : P.funcs[f]? = some fn) (hname : (fn.name == "runtime.NumGoroutine") = false) (hb : fn.body.isNone = true) (hn : Extern.findNext fn = none) (he : Extern.find fn = some (Extern.BytealgMakeNoZero.makeNoZero ps #[t])) (ht : P.underlying t = some (.slice e)) (hr : ρ (.func f) = .func (.func f) #[] #[]) (hx : ρ X = x) (H : sMkNZ h x e K) :
    Does P ρ ⟨dst, .call ⟨.value (.func f), #[X], ts⟩, tp, pos, after, g⟩ h K := by
  obtain ⟨n, rfl, hn', hk⟩ := H
  intro w hw
  obtain ⟨bs, h1, h2, h3⟩ := run_mnz (P := P) w ps t e ht n hn'
  have hc := run_callFunc_extern (P := P) hf hname hb hn he #[.int .i64 (n : Int)] w
  rw [h1] at hc
  refine .inl ⟨.slice (some ⟨w.heap.size, 0, none⟩) n bs.length, w.drew.drew.alloc (.cells (bs.map fun b => Value.int .u8 b).toArray e), ?_, ?_, ⟨rfl, rfl, rfl⟩⟩
  rotate_left
  · show K _ (w.heap.push _)
    rw [hw]
    exact hk bs h2 h3
  · have hX : (#[X] : Array Operand).map ρ = #[.int .i64 (n : Int)] := by simp [hx]
    have := hc
    simp [execOp, go_sem, resolve, hr, Deferred.ofValue, invoke, hx, this, hw]
end
end Go.HW

end

section
/- Own slices: of whatever bytes; copies that are cut short. -/
namespace Go.HW
open Go

theorem Sep.mknz3 {h0 h : Heap} {F : List HP} {e : Nat} {K : Value → Heap → Prop} (s : Sep h0 F h) (n : Nat) (h1 : 1 ≤ n) (hn : n ≤ 281474976710656)
    (H : ∀ v l h', Cell1 v → l.length = n → HW.cutP v 0 n 1 = v → Sep h0 (Sl (encI .u8) 1 v l :: F) h' → K v h') : sMkNZ h (.int .i64 (n : Int)) e (fun x h' => sSl3 x none (.int .i64 (n : Int)) (.int .i64 (n : Int)) 1 fun y => K y h') := by
  refine ⟨n, rfl, hn, fun bs hb _ => ?_⟩
  refine ⟨some ⟨h.size, 0, none⟩, n, bs.length, 0, n, n, .i64, .i64, rfl, rfl, rfl, rfl, Nat.zero_le _, Nat.le_refl _, hb, ?_⟩
  have ec : cutV (some ⟨h.size, 0, none⟩) 0 n n 1 = .slice (some ⟨h.size, 0, none⟩) n n := by
    unfold cutV
    rw [if_neg (by omega)]
    rfl
  rw [ec]
  have o : Own (encI .u8) 1 (h.push (.cells (bs.map fun b => Value.int .u8 b).toArray e)) (some h.size) (.slice (some ⟨h.size, 0, none⟩) n n) (bs.take n) := by
    refine .inr ⟨h.size, 0, n, n, _, e, rfl, rfl, by rw [List.length_take]; omega, Nat.le_refl _, Heap.has_new _ _, by simp; omega, fun j y hj i u hu => ?_⟩
    have hi : i = 0 := by have := (List.getElem?_eq_some_iff.1 hu).1; simp [encI] at this; exact this
    subst hi
    simp [encI] at hu
    subst hu
    have hj' := (List.getElem?_eq_some_iff.1 hj).1
    rw [List.length_take] at hj'
    rw [List.getElem?_take_of_lt (by omega)] at hj
    simp [hj]
  refine H _ _ _ trivial (by rw [List.length_take]; omega) ?_ (s.add1 (sep_own (Ext.refl h).push o fun _ e => by cases e; exact Nat.le_refl _))
  simp only [HW.cutP]
  exact ec

section
variable {α : Type} {enc : α → List Value} {sz : Nat} {h0 h : Heap} {F : List HP} {v : Value} {l : List α}
theorem Seq.rowTake (hs : ∀ x : α, (enc x).length = sz) (a : Seq enc sz h v l) {k : Nat} (hk : k ≤ l.length) : HW.rowOf h v sz k ((l.take k).flatMap enc).toArray := by
  obtain ⟨a, n, m, rfl, hn, hm, hd⟩ := a
  have q : Seq enc sz h (.slice a k m) (l.take k) := by
    refine ⟨a, k, m, rfl, by rw [List.length_take]; omega, by omega, ?_⟩
    rcases hd with h2 | ⟨b, o, rfl, hb, hc⟩
    · exact .inl (by omega)
    · refine .inr ⟨b, o, rfl, hb, fun j x hj => ?_⟩
      have hj' := (List.getElem?_eq_some_iff.1 hj).1
      rw [List.length_take] at hj'
      rw [List.getElem?_take_of_lt (by omega)] at hj
      exact hc j x hj
  have := q.rowOf hs
  rw [List.length_take, Nat.min_eq_left hk] at this
  cases a <;> exact this
theorem Sep.copyT {y : Value} {src : List α} {i j : Nat} {K : Value → Heap → Prop} (s : Sep h0 (Sl enc sz v l :: F) h) (hs : ∀ x, (enc x).length = sz) (h1 : ∀ x, ∀ u ∈ enc x, Cell1 u) (q : Seq enc sz h y src) (hij : i < j) (hj : j ≤ l.length) (H : ∀ h', Sep h0 (Sl enc sz v (setAll l i (src.take (j - i))) :: F) h' → K (.int .i64 (min src.length (j - i) : Nat)) h') : sCopy h (cutP v i j sz) y sz K := by
  obtain ⟨k, o⟩ := s.own
  rcases o with ⟨_, _, rfl⟩ | ⟨b, p, n, m, c, t, _, rfl, hn, hm, hb, hc, hcc⟩
  · simp at hj; omega
  · have hbase : cutP (.slice (some ⟨b, p, none⟩) n m) i j sz = .slice (some ⟨b, p + i * sz, none⟩) (j - i) (m - i) := by
      simp only [cutP, cutV]
      rw [if_neg (show ¬ m = i by omega)]
      simp only [Option.map_some, Addr.add]
      split
      · rename_i h0; rw [h0]; rfl
      · rfl
    rw [hbase]
    have hk : min src.length (j - i) ≤ src.length := Nat.min_le_left _ _
    have hlen : (src.take (min src.length (j - i))).length = min src.length (j - i) := by rw [List.length_take]; omega
    have htk : src.take (j - i) = src.take (min src.length (j - i)) := by
      rcases Nat.le_total src.length (j - i) with h | h
      · rw [Nat.min_eq_left h, List.take_of_length_le h, List.take_of_length_le (Nat.le_refl _)]
      · rw [Nat.min_eq_right h]
    rw [htk] at H
    have hsz : ((src.take (min src.length (j - i))).flatMap enc).length = min src.length (j - i) * sz := by rw [length_flat hs, hlen]
    refine ⟨_, j - i, _, src.length, ((src.take (min src.length (j - i))).flatMap enc).toArray, rfl, q.lenV, ?_, ?_, ?_, ?_⟩
    · exact q.rowTake hs hk
    · simpa using hsz
    · intro u hu
      simp only [List.mem_flatMap] at hu
      obtain ⟨x, _, hx⟩ := hu
      exact h1 x u hx
    · have hle : (i + min src.length (j - i)) * sz ≤ m * sz := Nat.mul_le_mul_right _ (by omega)
      rw [Nat.add_mul] at hle
      refine .inr ⟨b, p + i * sz, rfl, hb.fits (by omega), ?_⟩
      refine H _ ?_
      have := Sep.puts' hs h1 (src.take (min src.length (j - i))) h l i b (p + i * sz) s (by rw [hlen]; omega) (fun _ => rfl)
      exact this
end
end Go.HW

end

section
/- The shallow reading of one function, and that the function does it. Written by a program. -/
set_option linter.unusedVariables false
namespace Go.Proofs.Ytlcklnbgknhhkaa
open Go Go.HW

def ldisc_New_S (x0 : Value) (h : Heap) (R : Value → Heap → Prop) : Prop :=
  sBox h x0 28 fun x1 h => 
  sLdN h x1 17 fun x3 =>
  termios_Right_c x3 h fun x4 h_1 => 
  sNot x4 fun x5 =>
  sIf x5 (R (.pointer none) h_1) (sLdN h_1 x1 17 fun x6 =>
  sBuild #[.int .i64 0, .int .i64 0, .int .i64 0, .int .i64 0, .int .i64 0, .int .i64 0, .int .i64 0, .int .i64 0, .int .i64 0, .int .i64 0, .int .i64 0, .int .i64 0, .int .i64 0, .int .i64 0, .int .i64 0, .int .i64 0, .int .i64 0, .slice none 0 0, .slice none 0 0, .slice none 0 0, .bool false, .bool false, .slice none 0 0] [(0, 17, x6)] fun x7 =>
  sBox h_1 x7 72 fun x8 h_2 => 
  R x8 h_2)
set_option maxRecDepth 100000 in
theorem ldisc_New_runs {x0 : Value} {h : Heap} {R : Value → Heap → Prop} (H : ldisc_New_S x0 h R) : ldisc_New_c x0 h R := by
 unfold ldisc_New_S at H
 refine runs_of (b := ⟨#[x0, ud, ud, ud, ud, ud, ud, ud, ud], []⟩) Try.call13 Try.func13 rfl (by kernel_rfl) (fun w0 HA => ?_)
 refine wp_seq (lwp_list ?_)
 refine ls_d (d := some 1) (by kernel_rfl) (by kernel_rfl) HA (d_box (by kernel_rfl) H) (fun x1 h w H HA => ?_)
 refine ls_assign (x := (.pointer none)) (by kernel_rfl) (by kernel_rfl) ?_
 refine ls_nil (then_normal ?_)
 refine fr_eq (b := ⟨#[x0, x1, (.pointer none), ud, ud, ud, ud, ud, ud], []⟩) (by kernel_rfl) ?_
 refine wp_seq ?_
 refine wp_seq (lwp_list ?_)
 refine ls_y (d := some 3) (by kernel_rfl) (by kernel_rfl) HA (y_ldn Try.isAgg28 Try.sizeOf28 (by kernel_rfl) H) (fun x3 H => ?_)
 refine ls_d (d := some 4) (by kernel_rfl) (by kernel_rfl) HA (d_call (by kernel_rfl) (by kernel_rfl) H) (fun x4 h_1 w_1 H HA_1 => ?_)
 refine ls_p (d := some 5) (by kernel_rfl) (by kernel_rfl) (p_not (by kernel_rfl) H) (fun x5 H => ?_)
 refine ls_nil (then_normal ?_)
 refine fr_eq (b := ⟨#[x0, x1, (.pointer none), x3, x4, x5, ud, ud, ud], []⟩) (by kernel_rfl) ?_
 refine wp_if rfl H (fun H => ?_) (fun H => ?_)
 ·refine wp_seq (lwp_list ?_)
  refine ls_assign (x := (.pointer none)) (by kernel_rfl) (by kernel_rfl) ?_
  refine ls_nil (then_normal ?_)
  refine fr_eq (b := ⟨#[x0, x1, (.pointer none), x3, x4, x5, ud, ud, ud], []⟩) (by kernel_rfl) ?_
  refine wp_ret ?_
  refine then_ret ?_
  exact end1 (Try.results13) (by kernel_rfl) (by kernel_rfl) HA_1 H _ (.inr rfl)
 ·refine wp_skip ?_
  refine then_normal ?_
  refine fr_eq (b := ⟨#[x0, x1, (.pointer none), x3, x4, x5, ud, ud, ud], []⟩) (by kernel_rfl) ?_
  refine wp_seq (lwp_list ?_)
  refine ls_y (d := some 6) (by kernel_rfl) (by kernel_rfl) HA_1 (y_ldn Try.isAgg28 Try.sizeOf28 (by kernel_rfl) H) (fun x6 H => ?_)
  refine ls_p (d := some 7) (by kernel_rfl) (by kernel_rfl) (p_lit (pl := [(0, 17), (17, 1), (18, 1), (19, 1), (20, 1), (21, 1), (22, 1)]) Try.zeroValue72 Try.underlying72 ⟨(by kernel_rfl), Try.sizeOf28, (by kernel_rfl), Try.sizeOf30, (by kernel_rfl), Try.sizeOf22, (by kernel_rfl), Try.sizeOf30, (by kernel_rfl), Try.sizeOf4, (by kernel_rfl), Try.sizeOf4, (by kernel_rfl), Try.sizeOf30, trivial⟩ (by kernel_rfl) (by kernel_rfl) H) (fun x7 H => ?_)
  refine ls_d (d := some 8) (by kernel_rfl) (by kernel_rfl) HA_1 (d_box (by kernel_rfl) H) (fun x8 h_2 w_2 H HA_2 => ?_)
  refine ls_assign (x := x8) (by kernel_rfl) (by kernel_rfl) ?_
  refine ls_nil (then_normal ?_)
  refine fr_eq (b := ⟨#[x0, x1, x8, x3, x4, x5, x6, x7, x8], []⟩) (by kernel_rfl) ?_
  refine wp_ret ?_
  exact end1 (Try.results13) (by kernel_rfl) (by kernel_rfl) HA_2 H _ (.inr rfl)

end Go.Proofs.Ytlcklnbgknhhkaa

end

section
/- The shallow reading of one function, and that the function does it. Written by a program. -/
set_option linter.unusedVariables false
namespace Go.Proofs.Ytlcklnbgknhhkaa
open Go Go.HW

def ldisc_Disc_local_S (x0 x1 : Value) (h : Heap) (R : Value → Heap → Prop) : Prop :=
  sNil x0 fun x6 =>
  sOff x6 0 fun x7 =>
  sOff x7 2 fun x8 =>
  sLd h x8 fun x9 =>
  sBits .and .i64 x9 x1 fun x11 =>
  sNe x11 (.int .i64 0) fun x12 =>
  R x12 h
set_option maxRecDepth 100000 in
theorem ldisc_Disc_local_runs {x0 x1 : Value} {h : Heap} {R : Value → Heap → Prop} (H : ldisc_Disc_local_S x0 x1 h R) : ldisc_Disc_local_c x0 x1 h R := by
 unfold ldisc_Disc_local_S at H
 refine runs_of (b := ⟨#[x0, x1, ud, ud, ud, ud, ud, ud, ud, ud, ud, ud, ud], []⟩) Try.call41 Try.func41 rfl (by kernel_rfl) (fun w0 HA => ?_)
 refine wp_seq (lwp_list ?_)
 refine ls_assign (x := (.bool false)) (by kernel_rfl) (by kernel_rfl) ?_
 refine ls_nil (then_normal ?_)
 refine fr_eq (b := ⟨#[x0, x1, ud, ud, (.bool false), ud, ud, ud, ud, ud, ud, ud, ud], []⟩) (by kernel_rfl) ?_
 refine wp_seq (lwp_list ?_)
 refine ls_move (x := x0) (by kernel_rfl) (by kernel_rfl) ?_
 refine ls_p (d := some 6) (by kernel_rfl) (by kernel_rfl) (p_nil (by kernel_rfl) H) (fun x6 H => ?_)
 refine ls_p (d := some 7) (by kernel_rfl) (by kernel_rfl) (p_off Try.underlying72 rfl (fun w => ⟨_, Try.sizeOf28 w⟩) rfl (by kernel_rfl) H) (fun x7 H => ?_)
 refine ls_p (d := some 8) (by kernel_rfl) (by kernel_rfl) (p_off Try.underlying28 rfl (fun w => ⟨_, Try.sizeOf3 w⟩) rfl (by kernel_rfl) H) (fun x8 H => ?_)
 refine ls_y (d := some 9) (by kernel_rfl) (by kernel_rfl) HA (y_ld Try.isAgg3 (by kernel_rfl) H) (fun x9 H => ?_)
 refine ls_move (x := x1) (by kernel_rfl) (by kernel_rfl) ?_
 refine ls_fr (b := ⟨#[x0, x1, ud, ud, (.bool false), x0, x6, x7, x8, x9, x1, ud, ud], []⟩) (by kernel_rfl) ?_
 refine ls_p (d := some 11) (by kernel_rfl) (by kernel_rfl) (p_bits (by decide) (by kernel_rfl) (by kernel_rfl) H) (fun x11 H => ?_)
 refine ls_p (d := some 12) (by kernel_rfl) (by kernel_rfl) (p_sNe (by kernel_rfl) (by kernel_rfl) H) (fun x12 H => ?_)
 refine ls_assign (x := x12) (by kernel_rfl) (by kernel_rfl) ?_
 refine ls_nil (then_normal ?_)
 refine fr_eq (b := ⟨#[x0, x1, ud, ud, x12, x0, x6, x7, x8, x9, x1, x11, x12], []⟩) (by kernel_rfl) ?_
 refine wp_ret ?_
 exact end1 (Try.results41) (by kernel_rfl) (by kernel_rfl) HA H _ (.inr rfl)

end Go.Proofs.Ytlcklnbgknhhkaa

end

section
/- The shallow reading of one function, and that the function does it. Written by a program. -/
set_option linter.unusedVariables false
namespace Go.Proofs.Ytlcklnbgknhhkaa
open Go Go.HW

def ldisc_Disc_in_S (x0 x1 : Value) (h : Heap) (R : Value → Heap → Prop) : Prop :=
  sNil x0 fun x6 =>
  sOff x6 0 fun x7 =>
  sOff x7 0 fun x8 =>
  sLd h x8 fun x9 =>
  sBits .and .i64 x9 x1 fun x11 =>
  sNe x11 (.int .i64 0) fun x12 =>
  R x12 h
set_option maxRecDepth 100000 in
theorem ldisc_Disc_in_runs {x0 x1 : Value} {h : Heap} {R : Value → Heap → Prop} (H : ldisc_Disc_in_S x0 x1 h R) : ldisc_Disc_in_c x0 x1 h R := by
 unfold ldisc_Disc_in_S at H
 refine runs_of (b := ⟨#[x0, x1, ud, ud, ud, ud, ud, ud, ud, ud, ud, ud, ud], []⟩) Try.call61 Try.func61 rfl (by kernel_rfl) (fun w0 HA => ?_)
 refine wp_seq (lwp_list ?_)
 refine ls_assign (x := (.bool false)) (by kernel_rfl) (by kernel_rfl) ?_
 refine ls_nil (then_normal ?_)
 refine fr_eq (b := ⟨#[x0, x1, ud, ud, (.bool false), ud, ud, ud, ud, ud, ud, ud, ud], []⟩) (by kernel_rfl) ?_
 refine wp_seq (lwp_list ?_)
 refine ls_move (x := x0) (by kernel_rfl) (by kernel_rfl) ?_
 refine ls_p (d := some 6) (by kernel_rfl) (by kernel_rfl) (p_nil (by kernel_rfl) H) (fun x6 H => ?_)
 refine ls_p (d := some 7) (by kernel_rfl) (by kernel_rfl) (p_off Try.underlying72 rfl (fun w => ⟨_, Try.sizeOf28 w⟩) rfl (by kernel_rfl) H) (fun x7 H => ?_)
 refine ls_p (d := some 8) (by kernel_rfl) (by kernel_rfl) (p_off Try.underlying28 rfl (fun w => ⟨_, Try.sizeOf3 w⟩) rfl (by kernel_rfl) H) (fun x8 H => ?_)
 refine ls_y (d := some 9) (by kernel_rfl) (by kernel_rfl) HA (y_ld Try.isAgg3 (by kernel_rfl) H) (fun x9 H => ?_)
 refine ls_move (x := x1) (by kernel_rfl) (by kernel_rfl) ?_
 refine ls_fr (b := ⟨#[x0, x1, ud, ud, (.bool false), x0, x6, x7, x8, x9, x1, ud, ud], []⟩) (by kernel_rfl) ?_
 refine ls_p (d := some 11) (by kernel_rfl) (by kernel_rfl) (p_bits (by decide) (by kernel_rfl) (by kernel_rfl) H) (fun x11 H => ?_)
 refine ls_p (d := some 12) (by kernel_rfl) (by kernel_rfl) (p_sNe (by kernel_rfl) (by kernel_rfl) H) (fun x12 H => ?_)
 refine ls_assign (x := x12) (by kernel_rfl) (by kernel_rfl) ?_
 refine ls_nil (then_normal ?_)
 refine fr_eq (b := ⟨#[x0, x1, ud, ud, x12, x0, x6, x7, x8, x9, x1, x11, x12], []⟩) (by kernel_rfl) ?_
 refine wp_ret ?_
 exact end1 (Try.results61) (by kernel_rfl) (by kernel_rfl) HA H _ (.inr rfl)

end Go.Proofs.Ytlcklnbgknhhkaa

end

section
/- The shallow reading of one function, and that the function does it. Written by a program. -/
set_option linter.unusedVariables false
namespace Go.Proofs.Ytlcklnbgknhhkaa
open Go Go.HW

def ldisc_Disc_picture_S (x0 x1 : Value) (h : Heap) (R : Value → Heap → Prop) : Prop :=
  ldisc_Disc_local_c x0 (.int .i64 32) h fun x6 h => 
  sAnd x6 (fun k =>
  sLt x1 (.int .u8 32) fun x9 =>
  sAnd x9 (fun k_3 =>
  sNe x1 (.int .u8 9) fun x12 =>
  k_3 x12) fun x13 =>
  sAnd x13 (fun k_2 =>
  sNe x1 (.int .u8 10) fun x16 =>
  k_2 x16) fun x17 =>
  sOr x17 (fun k_1 =>
  sEq x1 (.int .u8 127) fun x20 =>
  k_1 x20) fun x21 =>
  k x21) fun x22 =>
  sIf x22 (sBits .xor .u8 x1 (.int .u8 64) fun x24 =>
  sSlit h #[.int .u8 0, .int .u8 0] [(0, 1, (.int .u8 94)), (1, 1, x24)] 5 2 fun x25 h_1 => 
  R x25 h_1) (sSlit h #[.int .u8 0] [(0, 1, x1)] 5 1 fun x27 h_2 => 
  R x27 h_2)
set_option maxRecDepth 100000 in
theorem ldisc_Disc_picture_runs {x0 x1 : Value} {h : Heap} {R : Value → Heap → Prop} (H : ldisc_Disc_picture_S x0 x1 h R) : ldisc_Disc_picture_c x0 x1 h R := by
 unfold ldisc_Disc_picture_S at H
 refine runs_of (b := ⟨#[x0, x1, ud, ud, ud, ud, ud, ud, ud, ud, ud, ud, ud, ud, ud, ud, ud, ud, ud, ud, ud, ud, ud, ud, ud, ud, ud, ud], []⟩) Try.call78 Try.func78 rfl (by kernel_rfl) (fun w0 HA => ?_)
 refine wp_seq (lwp_list ?_)
 refine ls_assign (x := (.slice none 0 0)) (by kernel_rfl) (by kernel_rfl) ?_
 refine ls_nil (then_normal ?_)
 refine fr_eq (b := ⟨#[x0, x1, ud, ud, (.slice none 0 0), ud, ud, ud, ud, ud, ud, ud, ud, ud, ud, ud, ud, ud, ud, ud, ud, ud, ud, ud, ud, ud, ud, ud], []⟩) (by kernel_rfl) ?_
 refine wp_seq ?_
 refine wp_seq (lwp_list ?_)
 refine ls_move (x := x0) (by kernel_rfl) (by kernel_rfl) ?_
 refine ls_d (d := some 6) (by kernel_rfl) (by kernel_rfl) HA (d_call (by kernel_rfl) (by kernel_rfl) H) (fun x6 h w H HA => ?_)
 refine ls_move (x := x6) (by kernel_rfl) (by kernel_rfl) ?_
 refine ls_and [(), (), (), (), (), (), (), (), (), (), (), (), (), (), ()] (fun K a w => ∃ (D : Nat → Value) (x22 : Value), a = ⟨#[x0, x1, ud, ud, (.slice none 0 0), x0, x6, x6, (D 0), (D 1), (D 2), (D 3), (D 4), (D 5), (D 6), (D 7), (D 8), (D 9), (D 10), (D 11), (D 12), (D 13), x22, ud, ud, ud, ud, ud], []⟩ ∧ At w0 w h ∧ K x22) H (fun hb H => ?_) (fun hb H => ?_) ?_
 ·refine ls_move (x := x1) (by rw [hb]; kernel_rfl) (by kernel_rfl) ?_
  refine ls_p (d := some 9) (by kernel_rfl) (by rw [hb]; kernel_rfl) (p_sLt (by kernel_rfl) (by kernel_rfl) H) (fun x9 H => ?_)
  refine ls_move (x := x9) (by rw [hb]; kernel_rfl) (by kernel_rfl) ?_
  refine ls_fr (b := ⟨#[x0, x1, ud, ud, (.slice none 0 0), x0, x6, x6, x1, x9, x9, ud, ud, ud, ud, ud, ud, ud, ud, ud, ud, ud, ud, ud, ud, ud, ud, ud], []⟩) (by kernel_rfl) ?_
  refine ls_and [(), (), ()] (fun K a w => ∃ (D_1 : Nat → Value) (x13 : Value), a = ⟨#[x0, x1, ud, ud, (.slice none 0 0), x0, x6, x6, x1, x9, x9, (D_1 0), (D_1 1), x13, ud, ud, ud, ud, ud, ud, ud, ud, ud, ud, ud, ud, ud, ud], []⟩ ∧ At w0 w h ∧ K x13) H (fun hb_3 H => ?_) (fun hb_3 H => ?_) ?_
  ·refine ls_move (x := x1) (by rw [hb_3]; kernel_rfl) (by kernel_rfl) ?_
   refine ls_p (d := some 12) (by kernel_rfl) (by rw [hb_3]; kernel_rfl) (p_sNe (by kernel_rfl) (by kernel_rfl) H) (fun x12 H => ?_)
   refine ls_pick_t (x := x12) (by rw [hb]; kernel_rfl) (by rw [hb_3]; kernel_rfl) (by kernel_rfl) ?_
   refine ls_nil (then_normal ?_)
   exact ⟨(fun i => ([x1, x12]).getD i ud), x12, by kernel_rfl, HA, H⟩
  ·refine ls_skip (d := some 11) (by kernel_rfl) (by rw [hb_3]; kernel_rfl) ?_
   refine ls_skip (d := some 12) (by kernel_rfl) (by rw [hb_3]; kernel_rfl) ?_
   refine ls_pick_f (y := (.bool false)) (by rw [hb]; kernel_rfl) (by rw [hb_3]; kernel_rfl) (by kernel_rfl) ?_
   refine ls_nil (then_normal ?_)
   exact ⟨(fun i => ([ud, ud]).getD i ud), (.bool false), by kernel_rfl, HA, H⟩
  ·rintro _ w_4 ⟨D_1, x13, rfl, HA_4, H⟩
   refine ls_move (x := x13) (by rw [hb]; kernel_rfl) (by kernel_rfl) ?_
   refine ls_and [(), (), ()] (fun K a w => ∃ (D_2 : Nat → Value) (x17 : Value), a = ⟨#[x0, x1, ud, ud, (.slice none 0 0), x0, x6, x6, x1, x9, x9, (D_1 0), (D_1 1), x13, x13, (D_2 0), (D_2 1), x17, ud, ud, ud, ud, ud, ud, ud, ud, ud, ud], []⟩ ∧ At w0 w h ∧ K x17) H (fun hb_2 H => ?_) (fun hb_2 H => ?_) ?_
   ·refine ls_move (x := x1) (by rw [hb_2]; kernel_rfl) (by kernel_rfl) ?_
    refine ls_p (d := some 16) (by kernel_rfl) (by rw [hb_2]; kernel_rfl) (p_sNe (by kernel_rfl) (by kernel_rfl) H) (fun x16 H => ?_)
    refine ls_pick_t (x := x16) (by rw [hb]; kernel_rfl) (by rw [hb_2]; kernel_rfl) (by kernel_rfl) ?_
    refine ls_nil (then_normal ?_)
    exact ⟨(fun i => ([x1, x16]).getD i ud), x16, by kernel_rfl, HA_4, H⟩
   ·refine ls_skip (d := some 15) (by kernel_rfl) (by rw [hb_2]; kernel_rfl) ?_
    refine ls_skip (d := some 16) (by kernel_rfl) (by rw [hb_2]; kernel_rfl) ?_
    refine ls_pick_f (y := (.bool false)) (by rw [hb]; kernel_rfl) (by rw [hb_2]; kernel_rfl) (by kernel_rfl) ?_
    refine ls_nil (then_normal ?_)
    exact ⟨(fun i => ([ud, ud]).getD i ud), (.bool false), by kernel_rfl, HA_4, H⟩
   ·rintro _ w_5 ⟨D_2, x17, rfl, HA_5, H⟩
    refine ls_move (x := x17) (by rw [hb]; kernel_rfl) (by kernel_rfl) ?_
    refine ls_or [(), (), ()] (fun K a w => ∃ (D_3 : Nat → Value) (x21 : Value), a = ⟨#[x0, x1, ud, ud, (.slice none 0 0), x0, x6, x6, x1, x9, x9, (D_1 0), (D_1 1), x13, x13, (D_2 0), (D_2 1), x17, x17, (D_3 0), (D_3 1), x21, ud, ud, ud, ud, ud, ud], []⟩ ∧ At w0 w h ∧ K x21) H (fun hb_1 H => ?_) (fun hb_1 H => ?_) ?_
    ·refine ls_move (x := x1) (by rw [hb_1]; kernel_rfl) (by kernel_rfl) ?_
     refine ls_p (d := some 20) (by kernel_rfl) (by rw [hb_1]; kernel_rfl) (p_sEq (by kernel_rfl) (by kernel_rfl) H) (fun x20 H => ?_)
     refine ls_pick_f (y := x20) (by rw [hb]; kernel_rfl) (by rw [hb_1]; kernel_rfl) (by kernel_rfl) ?_
     refine ls_nil (then_normal ?_)
     exact ⟨(fun i => ([x1, x20]).getD i ud), x20, by kernel_rfl, HA_5, H⟩
    ·refine ls_skip (d := some 19) (by kernel_rfl) (by rw [hb_1]; kernel_rfl) ?_
     refine ls_skip (d := some 20) (by kernel_rfl) (by rw [hb_1]; kernel_rfl) ?_
     refine ls_pick_t (x := (.bool true)) (by rw [hb]; kernel_rfl) (by rw [hb_1]; kernel_rfl) (by kernel_rfl) ?_
     refine ls_nil (then_normal ?_)
     exact ⟨(fun i => ([ud, ud]).getD i ud), (.bool true), by kernel_rfl, HA_5, H⟩
    ·rintro _ w_6 ⟨D_3, x21, rfl, HA_6, H⟩
     refine ls_pick_t (x := x21) (by kernel_rfl) (by rw [hb]; kernel_rfl) (by kernel_rfl) ?_
     refine ls_nil (then_normal ?_)
     exact ⟨(fun i => ([x1, x9, x9, (D_1 0), (D_1 1), x13, x13, (D_2 0), (D_2 1), x17, x17, (D_3 0), (D_3 1), x21]).getD i ud), x21, by kernel_rfl, HA_6, H⟩
 ·refine ls_skip (d := some 8) (by kernel_rfl) (by rw [hb]; kernel_rfl) ?_
  refine ls_skip (d := some 9) (by kernel_rfl) (by rw [hb]; kernel_rfl) ?_
  refine ls_skip (d := some 10) (by kernel_rfl) (by rw [hb]; kernel_rfl) ?_
  refine ls_fr (b := ⟨#[x0, x1, ud, ud, (.slice none 0 0), x0, x6, x6, ud, ud, ud, ud, ud, ud, ud, ud, ud, ud, ud, ud, ud, ud, ud, ud, ud, ud, ud, ud], []⟩) (by kernel_rfl) ?_
  refine ls_skip (d := some 11) (by kernel_rfl) (by kernel_rfl) ?_
  refine ls_skip (d := some 12) (by kernel_rfl) (by kernel_rfl) ?_
  refine ls_skip (d := some 13) (by kernel_rfl) (by rw [hb]; kernel_rfl) ?_
  refine ls_skip (d := some 14) (by kernel_rfl) (by rw [hb]; kernel_rfl) ?_
  refine ls_skip (d := some 15) (by kernel_rfl) (by kernel_rfl) ?_
  refine ls_skip (d := some 16) (by kernel_rfl) (by kernel_rfl) ?_
  refine ls_fr (b := ⟨#[x0, x1, ud, ud, (.slice none 0 0), x0, x6, x6, ud, ud, ud, ud, ud, ud, ud, ud, ud, ud, ud, ud, ud, ud, ud, ud, ud, ud, ud, ud], []⟩) (by kernel_rfl) ?_
  refine ls_skip (d := some 17) (by kernel_rfl) (by rw [hb]; kernel_rfl) ?_
  refine ls_skip (d := some 18) (by kernel_rfl) (by rw [hb]; kernel_rfl) ?_
  refine ls_skip (d := some 19) (by kernel_rfl) (by kernel_rfl) ?_
  refine ls_skip (d := some 20) (by kernel_rfl) (by kernel_rfl) ?_
  refine ls_skip (d := some 21) (by kernel_rfl) (by rw [hb]; kernel_rfl) ?_
  refine ls_pick_f (y := (.bool false)) (by kernel_rfl) (by rw [hb]; kernel_rfl) (by kernel_rfl) ?_
  refine ls_nil (then_normal ?_)
  exact ⟨(fun i => (Ap [] 14).getD i ud), (.bool false), by kernel_rfl, HA, H⟩
 ·rintro _ w_1 ⟨D, x22, rfl, HA_1, H⟩
  refine ls_nil (then_normal ?_)
  refine fr_eq (b := ⟨#[x0, x1, ud, ud, (.slice none 0 0), x0, x6, x6, (D 0), (D 1), (D 2), (D 3), (D 4), (D 5), (D 6), (D 7), (D 8), (D 9), (D 10), (D 11), (D 12), (D 13), x22, ud, ud, ud, ud, ud], []⟩) (by kernel_rfl) ?_
  refine wp_if rfl H (fun H => ?_) (fun H => ?_)
  ·refine wp_seq (lwp_list ?_)
   refine ls_move (x := x1) (by kernel_rfl) (by kernel_rfl) ?_
   refine ls_p (d := some 24) (by kernel_rfl) (by kernel_rfl) (p_bits (by decide) (by kernel_rfl) (by kernel_rfl) H) (fun x24 H => ?_)
   refine ls_d (d := some 25) (by kernel_rfl) (by kernel_rfl) HA_1 (d_slit (zc := #[.int .u8 0]) Try.underlying30 Try.sizeOf5 (by decide) (.inr ⟨by decide, _, Try.zeroValue5, (by kernel_rfl)⟩) (by kernel_rfl) (by kernel_rfl) H) (fun x25 h_1 w_2 H HA_2 => ?_)
   refine ls_assign (x := x25) (by kernel_rfl) (by kernel_rfl) ?_
   refine ls_nil (then_normal ?_)
   refine fr_eq (b := ⟨#[x0, x1, ud, ud, x25, x0, x6, x6, (D 0), (D 1), (D 2), (D 3), (D 4), (D 5), (D 6), (D 7), (D 8), (D 9), (D 10), (D 11), (D 12), (D 13), x22, x1, x24, x25, ud, ud], []⟩) (by kernel_rfl) ?_
   refine wp_ret ?_
   refine then_ret ?_
   exact end1 (Try.results78) (by kernel_rfl) (by kernel_rfl) HA_2 H _ (.inr rfl)
  ·refine wp_skip ?_
   refine then_normal ?_
   refine fr_eq (b := ⟨#[x0, x1, ud, ud, (.slice none 0 0), x0, x6, x6, (D 0), (D 1), (D 2), (D 3), (D 4), (D 5), (D 6), (D 7), (D 8), (D 9), (D 10), (D 11), (D 12), (D 13), x22, ud, ud, ud, ud, ud], []⟩) (by kernel_rfl) ?_
   refine wp_seq (lwp_list ?_)
   refine ls_move (x := x1) (by kernel_rfl) (by kernel_rfl) ?_
   refine ls_d (d := some 27) (by kernel_rfl) (by kernel_rfl) HA_1 (d_slit (zc := #[.int .u8 0]) Try.underlying30 Try.sizeOf5 (by decide) (.inr ⟨by decide, _, Try.zeroValue5, (by kernel_rfl)⟩) (by kernel_rfl) (by kernel_rfl) H) (fun x27 h_2 w_3 H HA_3 => ?_)
   refine ls_assign (x := x27) (by kernel_rfl) (by kernel_rfl) ?_
   refine ls_nil (then_normal ?_)
   refine fr_eq (b := ⟨#[x0, x1, ud, ud, x27, x0, x6, x6, (D 0), (D 1), (D 2), (D 3), (D 4), (D 5), (D 6), (D 7), (D 8), (D 9), (D 10), (D 11), (D 12), (D 13), x22, ud, ud, ud, x1, x27], []⟩) (by kernel_rfl) ?_
   refine wp_ret ?_
   exact end1 (Try.results78) (by kernel_rfl) (by kernel_rfl) HA_3 H _ (.inr rfl)

end Go.Proofs.Ytlcklnbgknhhkaa

end

section
/- The shallow reading of one function, and that the function does it. Written by a program. -/
set_option linter.unusedVariables false
namespace Go.Proofs.Ytlcklnbgknhhkaa
open Go Go.HW

def ldisc_Disc_show_S (x0 x1 : Value) (h : Heap) (R : Value → Heap → Prop) : Prop :=
  ldisc_Disc_local_c x0 (.int .i64 2) h fun x5 h => 
  sIf x5 (∃ C : Heap → Prop, C h ∧ (sNil x0 fun x8 =>
  sOff x8 22 fun x9 =>
  sLdC C x9 fun x10 =>
  ldisc_Disc_picture_c x0 x1 h fun x13 h_1 => C h_1 ∧ (
  sApp h_1 x10 x13 #[.int .u8 0] 5 1 fun x14 h_2 => 
  sNil x0 fun x15 =>
  sOff x15 22 fun x16 =>
  sSt h_2 x16 x14 fun h_3 => 
  R unit h_3))) (R unit h)
set_option maxRecDepth 100000 in
theorem ldisc_Disc_show_runs {x0 x1 : Value} {h : Heap} {R : Value → Heap → Prop} (H : ldisc_Disc_show_S x0 x1 h R) : ldisc_Disc_show_c x0 x1 h R := by
 unfold ldisc_Disc_show_S at H
 refine runs_of (b := ⟨#[x0, x1, ud, ud, ud, ud, ud, ud, ud, ud, ud, ud, ud, ud, ud, ud, ud], []⟩) Try.call66 Try.func66 rfl (by kernel_rfl) (fun w0 HA => ?_)
 refine wp_seq (lwp_list ?_)
 refine ls_move (x := x0) (by kernel_rfl) (by kernel_rfl) ?_
 refine ls_d (d := some 5) (by kernel_rfl) (by kernel_rfl) HA (d_call (by kernel_rfl) (by kernel_rfl) H) (fun x5 h w H HA => ?_)
 refine ls_nil (then_normal ?_)
 refine fr_eq (b := ⟨#[x0, x1, ud, ud, x0, x5, ud, ud, ud, ud, ud, ud, ud, ud, ud, ud, ud], []⟩) (by kernel_rfl) ?_
 refine wp_if rfl H (fun H => ?_) (fun H => ?_)
 ·obtain ⟨C, HC, H⟩ := H
  refine lwp_mx (Nat.testBit 2432) (Nat.testBit 128) (Nat.testBit 1647) [0, 0, 2, 6, 14, 0, 0, 96, 254, 511, 1023, 2047] (Nat.testBit 0) C [0, 1, 2, 3, 4, 5, 6, 7, 8, 9, 10, 11] (by kernel_rfl) (by kernel_rfl) (by kernel_rfl) (by kernel_rfl) HA HC ?_
  intro w_1 HA_1
  refine lm_al (x := x0) (d := some 6) (by kernel_rfl) rfl (by kernel_rfl) (by kernel_rfl) (al_move (by kernel_rfl)) ?_
  refine lm_al (x := x0) (d := some 7) (by kernel_rfl) rfl (by kernel_rfl) (by kernel_rfl) (al_move (by kernel_rfl)) ?_
  refine lm_p (d := some 8) (by kernel_rfl) rfl (by kernel_rfl) (by kernel_rfl) (p_nil (by kernel_rfl) H) (fun x8 H => ?_)
  refine lm_p (d := some 9) (by kernel_rfl) rfl (by kernel_rfl) (by kernel_rfl) (p_off Try.underlying72 rfl (fun w => ⟨_, Try.sizeOf30 w⟩) rfl (by kernel_rfl) H) (fun x9 H => ?_)
  refine lm_f (d := some 10) (by kernel_rfl) rfl (by kernel_rfl) (by kernel_rfl) (by kernel_rfl) (by kernel_rfl) (c_ld Try.isAgg30 (by kernel_rfl) H) (fun x10 H => ?_)
  refine lm_al (x := x0) (d := some 11) (by kernel_rfl) rfl (by kernel_rfl) (by kernel_rfl) (al_move (by kernel_rfl)) ?_
  refine lm_fr (b := ⟨#[x0, x1, ud, ud, x0, x5, x0, x0, x8, x9, x10, x0, ud, ud, ud, ud, ud], []⟩) (by kernel_rfl) ?_
  refine lm_al (x := x1) (d := some 12) (by kernel_rfl) rfl (by kernel_rfl) (by kernel_rfl) (al_move (by kernel_rfl)) ?_
  refine lm_dc (d := some 13) (by kernel_rfl) rfl (by kernel_rfl) (by kernel_rfl) (by kernel_rfl) HA_1 (d_call (by kernel_rfl) (by kernel_rfl) H) (fun x13 h_1 w_2 H HA_2 => ?_)
  refine lm_d (d := some 14) (by kernel_rfl) rfl (by kernel_rfl) (by kernel_rfl) (by kernel_rfl) HA_2 (d_app (z := #[.int .u8 0]) Try.underlying30 Try.underlying30 (.inl ⟨_, rfl⟩) Try.typeInfo5 (by kernel_rfl) Try.sizeOf5 Try.zeroValue5 (by kernel_rfl) (by kernel_rfl) (by kernel_rfl) H) (fun x14 h_2 w_3 H HA_3 => ?_)
  refine lm_p (d := some 15) (by kernel_rfl) rfl (by kernel_rfl) (by kernel_rfl) (p_nil (by kernel_rfl) H) (fun x15 H => ?_)
  refine lm_p (d := some 16) (by kernel_rfl) rfl (by kernel_rfl) (by kernel_rfl) (p_off Try.underlying72 rfl (fun w => ⟨_, Try.sizeOf30 w⟩) rfl (by kernel_rfl) H) (fun x16 H => ?_)
  refine lm_d (d := none) (by kernel_rfl) rfl (by kernel_rfl) (by kernel_rfl) (by kernel_rfl) HA_3 (d_st Try.sizeOf30 (by kernel_rfl) (by kernel_rfl) H) (fun _ h_3 w_4 H HA_4 => ?_)
  refine lm_nil ?_
  exact end0 (Try.results66) (by kernel_rfl) HA_4 H _ (.inl rfl)
 ·refine wp_skip ?_
  exact end0 (Try.results66) (by kernel_rfl) HA H _ (.inl rfl)

end Go.Proofs.Ytlcklnbgknhhkaa

end

section
/- The shallow reading of one function, and that the function does it. Written by a program. -/
set_option linter.unusedVariables false
namespace Go.Proofs.Ytlcklnbgknhhkaa
open Go Go.HW

def ldisc_Disc_bell_S (x0 : Value) (h : Heap) (R : Value → Heap → Prop) : Prop :=
  ldisc_Disc_in_c x0 (.int .i64 64) h fun x3 h => 
  sIf x3 (sNil x0 fun x6 =>
  sOff x6 22 fun x7 =>
  sLd h x7 fun x8 =>
  sSlit h #[.int .u8 0] [(0, 1, (.int .u8 7))] 5 1 fun x9 h_1 => 
  sApp h_1 x8 x9 #[.int .u8 0] 5 1 fun x10 h_2 => 
  sNil x0 fun x11 =>
  sOff x11 22 fun x12 =>
  sSt h_2 x12 x10 fun h_3 => 
  R unit h_3) (R unit h)
set_option maxRecDepth 100000 in
theorem ldisc_Disc_bell_runs {x0 : Value} {h : Heap} {R : Value → Heap → Prop} (H : ldisc_Disc_bell_S x0 h R) : ldisc_Disc_bell_c x0 h R := by
 unfold ldisc_Disc_bell_S at H
 refine runs_of (b := ⟨#[x0, ud, ud, ud, ud, ud, ud, ud, ud, ud, ud, ud, ud], []⟩) Try.call76 Try.func76 rfl (by kernel_rfl) (fun w0 HA => ?_)
 refine wp_seq (lwp_list ?_)
 refine ls_move (x := x0) (by kernel_rfl) (by kernel_rfl) ?_
 refine ls_d (d := some 3) (by kernel_rfl) (by kernel_rfl) HA (d_call (by kernel_rfl) (by kernel_rfl) H) (fun x3 h w H HA => ?_)
 refine ls_nil (then_normal ?_)
 refine fr_eq (b := ⟨#[x0, ud, x0, x3, ud, ud, ud, ud, ud, ud, ud, ud, ud], []⟩) (by kernel_rfl) ?_
 refine wp_if rfl H (fun H => ?_) (fun H => ?_)
 ·refine lwp_list ?_
  refine ls_move (x := x0) (by kernel_rfl) (by kernel_rfl) ?_
  refine ls_move (x := x0) (by kernel_rfl) (by kernel_rfl) ?_
  refine ls_p (d := some 6) (by kernel_rfl) (by kernel_rfl) (p_nil (by kernel_rfl) H) (fun x6 H => ?_)
  refine ls_p (d := some 7) (by kernel_rfl) (by kernel_rfl) (p_off Try.underlying72 rfl (fun w => ⟨_, Try.sizeOf30 w⟩) rfl (by kernel_rfl) H) (fun x7 H => ?_)
  refine ls_y (d := some 8) (by kernel_rfl) (by kernel_rfl) HA (y_ld Try.isAgg30 (by kernel_rfl) H) (fun x8 H => ?_)
  refine ls_d (d := some 9) (by kernel_rfl) (by kernel_rfl) HA (d_slit (zc := #[.int .u8 0]) Try.underlying30 Try.sizeOf5 (by decide) (.inr ⟨by decide, _, Try.zeroValue5, (by kernel_rfl)⟩) (by kernel_rfl) (by kernel_rfl) H) (fun x9 h_1 w_1 H HA_1 => ?_)
  refine ls_fr (b := ⟨#[x0, ud, x0, x3, x0, x0, x6, x7, x8, x9, ud, ud, ud], []⟩) (by kernel_rfl) ?_
  refine ls_d (d := some 10) (by kernel_rfl) (by kernel_rfl) HA_1 (d_app (z := #[.int .u8 0]) Try.underlying30 Try.underlying30 (.inl ⟨_, rfl⟩) Try.typeInfo5 (by kernel_rfl) Try.sizeOf5 Try.zeroValue5 (by kernel_rfl) (by kernel_rfl) (by kernel_rfl) H) (fun x10 h_2 w_2 H HA_2 => ?_)
  refine ls_p (d := some 11) (by kernel_rfl) (by kernel_rfl) (p_nil (by kernel_rfl) H) (fun x11 H => ?_)
  refine ls_p (d := some 12) (by kernel_rfl) (by kernel_rfl) (p_off Try.underlying72 rfl (fun w => ⟨_, Try.sizeOf30 w⟩) rfl (by kernel_rfl) H) (fun x12 H => ?_)
  refine ls_d (d := none) (by kernel_rfl) (by kernel_rfl) HA_2 (d_st Try.sizeOf30 (by kernel_rfl) (by kernel_rfl) H) (fun _ h_3 w_3 H HA_3 => ?_)
  refine ls_nil ?_
  exact end0 (Try.results76) (by kernel_rfl) HA_3 H _ (.inl rfl)
 ·refine wp_skip ?_
  exact end0 (Try.results76) (by kernel_rfl) HA H _ (.inl rfl)

end Go.Proofs.Ytlcklnbgknhhkaa

end

section
/- The shallow reading of one function, and that the function does it. Written by a program. -/
set_option linter.unusedVariables false
namespace Go.Proofs.Ytlcklnbgknhhkaa
open Go Go.HW

def ldisc_Disc_is_S (x0 x1 x2 : Value) (h : Heap) (R : Value → Heap → Prop) : Prop :=
  sNil x0 fun x8 =>
  sOff x8 0 fun x9 =>
  sLdN h x9 17 fun x10 =>
  termios_Is_c x10 x1 x2 h fun x13 h => 
  R x13 h
set_option maxRecDepth 100000 in
theorem ldisc_Disc_is_runs {x0 x1 x2 : Value} {h : Heap} {R : Value → Heap → Prop} (H : ldisc_Disc_is_S x0 x1 x2 h R) : ldisc_Disc_is_c x0 x1 x2 h R := by
 unfold ldisc_Disc_is_S at H
 refine runs_of (b := ⟨#[x0, x1, x2, ud, ud, ud, ud, ud, ud, ud, ud, ud, ud, ud], []⟩) Try.call77 Try.func77 rfl (by kernel_rfl) (fun w0 HA => ?_)
 refine wp_seq (lwp_list ?_)
 refine ls_assign (x := (.bool false)) (by kernel_rfl) (by kernel_rfl) ?_
 refine ls_nil (then_normal ?_)
 refine fr_eq (b := ⟨#[x0, x1, x2, ud, ud, ud, (.bool false), ud, ud, ud, ud, ud, ud, ud], []⟩) (by kernel_rfl) ?_
 refine wp_seq (lwp_list ?_)
 refine ls_move (x := x0) (by kernel_rfl) (by kernel_rfl) ?_
 refine ls_p (d := some 8) (by kernel_rfl) (by kernel_rfl) (p_nil (by kernel_rfl) H) (fun x8 H => ?_)
 refine ls_p (d := some 9) (by kernel_rfl) (by kernel_rfl) (p_off Try.underlying72 rfl (fun w => ⟨_, Try.sizeOf28 w⟩) rfl (by kernel_rfl) H) (fun x9 H => ?_)
 refine ls_y (d := some 10) (by kernel_rfl) (by kernel_rfl) HA (y_ldn Try.isAgg28 Try.sizeOf28 (by kernel_rfl) H) (fun x10 H => ?_)
 refine ls_move (x := x1) (by kernel_rfl) (by kernel_rfl) ?_
 refine ls_move (x := x2) (by kernel_rfl) (by kernel_rfl) ?_
 refine ls_fr (b := ⟨#[x0, x1, x2, ud, ud, ud, (.bool false), x0, x8, x9, x10, x1, x2, ud], []⟩) (by kernel_rfl) ?_
 refine ls_d (d := some 13) (by kernel_rfl) (by kernel_rfl) HA (d_call (by kernel_rfl) (by kernel_rfl) H) (fun x13 h w H HA => ?_)
 refine ls_assign (x := x13) (by kernel_rfl) (by kernel_rfl) ?_
 refine ls_nil (then_normal ?_)
 refine fr_eq (b := ⟨#[x0, x1, x2, ud, ud, ud, x13, x0, x8, x9, x10, x1, x2, x13], []⟩) (by kernel_rfl) ?_
 refine wp_ret ?_
 exact end1 (Try.results77) (by kernel_rfl) (by kernel_rfl) HA H _ (.inr rfl)

end Go.Proofs.Ytlcklnbgknhhkaa

end

section
/- The shallow reading of one function, and that the function does it. Written by a program. -/
set_option linter.unusedVariables false
namespace Go.Proofs.Ytlcklnbgknhhkaa
open Go Go.HW

def ldisc_Disc_ends_S (x0 x1 : Value) (h : Heap) (R : Value → Heap → Prop) : Prop :=
  sEq x1 (.int .u8 10) fun x6 =>
  sOrH x6 h (fun k =>
  ldisc_Disc_is_c x0 (.int .i64 4) x1 h fun x10 h_1 => 
  k x10 h_1) fun x11 h =>
  R x11 h
set_option maxRecDepth 100000 in
theorem ldisc_Disc_ends_runs {x0 x1 : Value} {h : Heap} {R : Value → Heap → Prop} (H : ldisc_Disc_ends_S x0 x1 h R) : ldisc_Disc_ends_c x0 x1 h R := by
 unfold ldisc_Disc_ends_S at H
 refine runs_of (b := ⟨#[x0, x1, ud, ud, ud, ud, ud, ud, ud, ud, ud, ud], []⟩) Try.call75 Try.func75 rfl (by kernel_rfl) (fun w0 HA => ?_)
 refine wp_seq (lwp_list ?_)
 refine ls_assign (x := (.bool false)) (by kernel_rfl) (by kernel_rfl) ?_
 refine ls_nil (then_normal ?_)
 refine fr_eq (b := ⟨#[x0, x1, ud, ud, (.bool false), ud, ud, ud, ud, ud, ud, ud], []⟩) (by kernel_rfl) ?_
 refine wp_seq (lwp_list ?_)
 refine ls_move (x := x1) (by kernel_rfl) (by kernel_rfl) ?_
 refine ls_p (d := some 6) (by kernel_rfl) (by kernel_rfl) (p_sEq (by kernel_rfl) (by kernel_rfl) H) (fun x6 H => ?_)
 refine ls_move (x := x6) (by kernel_rfl) (by kernel_rfl) ?_
 refine ls_orh [(), (), (), ()] (fun K a w => ∃ (D : Nat → Value) (x11 : Value) (h : Heap), a = ⟨#[x0, x1, ud, ud, (.bool false), x1, x6, x6, (D 0), (D 1), (D 2), x11], []⟩ ∧ At w0 w h ∧ K x11 h) H (fun hb H => ?_) (fun hb H => ?_) ?_
 ·refine ls_move (x := x0) (by rw [hb]; kernel_rfl) (by kernel_rfl) ?_
  refine ls_move (x := x1) (by rw [hb]; kernel_rfl) (by kernel_rfl) ?_
  refine ls_d (d := some 10) (by kernel_rfl) (by rw [hb]; kernel_rfl) HA (d_call (by kernel_rfl) (by kernel_rfl) H) (fun x10 h_1 w_1 H HA_1 => ?_)
  refine ls_pick_f (y := x10) (by kernel_rfl) (by rw [hb]; kernel_rfl) (by kernel_rfl) ?_
  refine ls_nil (then_normal ?_)
  exact ⟨(fun i => ([x0, x1, x10]).getD i ud), x10, h_1, by kernel_rfl, HA_1, H⟩
 ·refine ls_skip (d := some 8) (by kernel_rfl) (by rw [hb]; kernel_rfl) ?_
  refine ls_skip (d := some 9) (by kernel_rfl) (by rw [hb]; kernel_rfl) ?_
  refine ls_skip (d := some 10) (by kernel_rfl) (by rw [hb]; kernel_rfl) ?_
  refine ls_pick_t (x := (.bool true)) (by kernel_rfl) (by rw [hb]; kernel_rfl) (by kernel_rfl) ?_
  refine ls_nil (then_normal ?_)
  exact ⟨(fun i => ([ud, ud, ud]).getD i ud), (.bool true), h, by kernel_rfl, HA, H⟩
 ·rintro _ w ⟨D, x11, h, rfl, HA, H⟩
  refine ls_assign (x := x11) (by kernel_rfl) (by kernel_rfl) ?_
  refine ls_nil (then_normal ?_)
  refine fr_eq (b := ⟨#[x0, x1, ud, ud, x11, x1, x6, x6, (D 0), (D 1), (D 2), x11], []⟩) (by kernel_rfl) ?_
  refine wp_ret ?_
  exact end1 (Try.results75) (by kernel_rfl) (by kernel_rfl) HA H _ (.inr rfl)

end Go.Proofs.Ytlcklnbgknhhkaa

end

section
/- The shallow reading of one function, and that the function does it. Written by a program. -/
set_option linter.unusedVariables false
namespace Go.Proofs.Ytlcklnbgknhhkaa
open Go Go.HW

def ldisc_Disc_put_j2 (R : Value → Heap → Prop) (x0 x1 : Value) (h_4 : Heap) : Prop :=
  ldisc_Disc_show_c x0 x1 h_4 fun x90 h_5 => 
  R (.bool true) h_5
def ldisc_Disc_put_j1 (R : Value → Heap → Prop) (x0 x1 : Value) (h : Heap) : Prop :=
  sEq x1 (.int .u8 10) fun x64 =>
  sAndH x64 h (fun k_2 =>
  ldisc_Disc_local_c x0 (.int .i64 1) h fun x67 h_11 => 
  k_2 x67 h_11) fun x68 h_1 =>
  sAndH x68 h_1 (fun k_1 =>
  ldisc_Disc_local_c x0 (.int .i64 16) h_1 fun x71 h_10 => 
  k_1 x71 h_10) fun x72 h_2 =>
  sAndH x72 h_2 (fun k =>
  ldisc_Disc_local_c x0 (.int .i64 2) h_2 fun x75 h_9 => 
  sNot x75 fun x76 =>
  k x76 h_9) fun x77 h_3 =>
  sIf x77 (sNil x0 fun x80 =>
  sOff x80 22 fun x81 =>
  sLd h_3 x81 fun x82 =>
  sSlit h_3 #[.int .u8 0] [(0, 1, x1)] 5 1 fun x84 h_6 => 
  sApp h_6 x82 x84 #[.int .u8 0] 5 1 fun x85 h_7 => 
  sNil x0 fun x86 =>
  sOff x86 22 fun x87 =>
  sSt h_7 x87 x85 fun h_8 => 
  ldisc_Disc_put_j2 R x0 x1 h_8) (ldisc_Disc_put_j2 R x0 x1 h_3)
def ldisc_Disc_put_S (x0 x1 : Value) (h : Heap) (R : Value → Heap → Prop) : Prop :=
  ldisc_Disc_local_c x0 (.int .i64 1) h fun x9 h_12 => 
  sNot x9 fun x10 =>
  sAnd x10 (fun k_6 =>
  sNil x0 fun x13 =>
  sOff x13 19 fun x14 =>
  sLd h_12 x14 fun x15 =>
  sLen x15 fun x16 =>
  sLt x16 (.int .i64 1024) fun x17 =>
  k_6 x17) fun x18 =>
  sIf x18 (sNil x0 fun x21 =>
  sOff x21 19 fun x22 =>
  sLd h_12 x22 fun x23 =>
  sSlit h_12 #[.int .u8 0] [(0, 1, x1)] 5 1 fun x25 h_13 => 
  sApp h_13 x23 x25 #[.int .u8 0] 5 1 fun x26 h_14 => 
  sNil x0 fun x27 =>
  sOff x27 19 fun x28 =>
  sSt h_14 x28 x26 fun h_15 => 
  ldisc_Disc_put_j1 R x0 x1 h_15) (ldisc_Disc_local_c x0 (.int .i64 1) h_12 fun x31 h_16 => 
  sAndH x31 h_16 (fun k_3 =>
  sNil x0 fun x34 =>
  sOff x34 17 fun x35 =>
  sLd h_16 x35 fun x36 =>
  sLen x36 fun x37 =>
  sLt x37 (.int .i64 254) fun x38 =>
  sOrH x38 h_16 (fun k_4 =>
  ldisc_Disc_ends_c x0 x1 h_16 fun x42 h_23 => 
  sAnd x42 (fun k_5 =>
  sNil x0 fun x45 =>
  sOff x45 17 fun x46 =>
  sLd h_23 x46 fun x47 =>
  sLen x47 fun x48 =>
  sLt x48 (.int .i64 255) fun x49 =>
  k_5 x49) fun x50 =>
  k_4 x50 h_23) fun x51 h_22 =>
  k_3 x51 h_22) fun x52 h_17 =>
  sIf x52 (sNil x0 fun x55 =>
  sOff x55 17 fun x56 =>
  sLd h_17 x56 fun x57 =>
  sSlit h_17 #[.int .u8 0] [(0, 1, x1)] 5 1 fun x59 h_18 => 
  sApp h_18 x57 x59 #[.int .u8 0] 5 1 fun x60 h_19 => 
  sNil x0 fun x61 =>
  sOff x61 17 fun x62 =>
  sSt h_19 x62 x60 fun h_20 => 
  ldisc_Disc_put_j1 R x0 x1 h_20) (ldisc_Disc_bell_c x0 h_17 fun x6 h_21 => 
  R (.bool false) h_21))
set_option maxRecDepth 100000 in
theorem ldisc_Disc_put_runs {x0 x1 : Value} {h : Heap} {R : Value → Heap → Prop} (H : ldisc_Disc_put_S x0 x1 h R) : ldisc_Disc_put_c x0 x1 h R := by
 unfold ldisc_Disc_put_S at H
 refine runs_of (b := ⟨(Ap [x0, x1] 89).toArray, []⟩) Try.call62 Try.func62 rfl (by kernel_rfl) (fun w0 HA => ?_)
 refine wp_seq (lwp_list ?_)
 refine ls_assign (x := (.bool false)) (by kernel_rfl) (by kernel_rfl) ?_
 refine ls_nil (then_normal ?_)
 refine fr_eq (b := ⟨(Ap [x0, x1, ud, ud, (.bool false)] 86).toArray, []⟩) (by kernel_rfl) ?_
 refine wp_seq ?_
 refine wp_join (fun a w => ∃ (D : Nat → Value) (h : Heap), a = ⟨([x0, x1, ud, ud] ++ (Ad D 0 59 (Ap [] 28))).toArray, []⟩ ∧ At w0 w h ∧ ldisc_Disc_put_j1 R x0 x1 h) ?_ ?_
 ·refine wp_block ?_
  refine wp_seq (lwp_list ?_)
  refine ls_move (x := x0) (by kernel_rfl) (by kernel_rfl) ?_
  refine ls_d (d := some 9) (by kernel_rfl) (by kernel_rfl) HA (d_call (by kernel_rfl) (by kernel_rfl) H) (fun x9 h_12 w_12 H HA_12 => ?_)
  refine ls_p (d := some 10) (by kernel_rfl) (by kernel_rfl) (p_not (by kernel_rfl) H) (fun x10 H => ?_)
  refine ls_move (x := x10) (by kernel_rfl) (by kernel_rfl) ?_
  refine ls_and [(), (), (), (), (), (), ()] (fun K a w => ∃ (D_5 : Nat → Value) (x18 : Value), a = ⟨([x0, x1, ud, ud, (.bool false), ud, ud, ud, x0, x9, x10, x10] ++ (Ad D_5 0 6 (Ap [x18] 72))).toArray, []⟩ ∧ At w0 w h_12 ∧ K x18) H (fun hb_6 H => ?_) (fun hb_6 H => ?_) ?_
  ·refine ls_move (x := x0) (by rw [hb_6]; kernel_rfl) (by kernel_rfl) ?_
   refine ls_p (d := some 13) (by kernel_rfl) (by rw [hb_6]; kernel_rfl) (p_nil (by kernel_rfl) H) (fun x13 H => ?_)
   refine ls_fr (b := ⟨(Ap [x0, x1, ud, ud, (.bool false), ud, ud, ud, x0, x9, x10, x10, x0, x13] 77).toArray, []⟩) (by kernel_rfl) ?_
   refine ls_p (d := some 14) (by kernel_rfl) (by rw [hb_6]; kernel_rfl) (p_off Try.underlying72 rfl (fun w => ⟨_, Try.sizeOf30 w⟩) rfl (by kernel_rfl) H) (fun x14 H => ?_)
   refine ls_y (d := some 15) (by kernel_rfl) (by rw [hb_6]; kernel_rfl) HA_12 (y_ld Try.isAgg30 (by kernel_rfl) H) (fun x15 H => ?_)
   refine ls_p (d := some 16) (by kernel_rfl) (by rw [hb_6]; kernel_rfl) (p_len Try.underlying30 (by kernel_rfl) H) (fun x16 H => ?_)
   refine ls_p (d := some 17) (by kernel_rfl) (by rw [hb_6]; kernel_rfl) (p_sLt (by kernel_rfl) (by kernel_rfl) H) (fun x17 H => ?_)
   refine ls_pick_t (x := x17) (by kernel_rfl) (by rw [hb_6]; kernel_rfl) (by kernel_rfl) ?_
   refine ls_nil (then_normal ?_)
   exact ⟨(fun i => ([x0, x13, x14, x15, x16, x17]).getD i ud), x17, by kernel_rfl, HA_12, H⟩
  ·refine ls_skip (d := some 12) (by kernel_rfl) (by rw [hb_6]; kernel_rfl) ?_
   refine ls_skip (d := some 13) (by kernel_rfl) (by rw [hb_6]; kernel_rfl) ?_
   refine ls_fr (b := ⟨(Ap [x0, x1, ud, ud, (.bool false), ud, ud, ud, x0, x9, x10, x10] 79).toArray, []⟩) (by kernel_rfl) ?_
   refine ls_skip (d := some 14) (by kernel_rfl) (by rw [hb_6]; kernel_rfl) ?_
   refine ls_skip (d := some 15) (by kernel_rfl) (by rw [hb_6]; kernel_rfl) ?_
   refine ls_skip (d := some 16) (by kernel_rfl) (by rw [hb_6]; kernel_rfl) ?_
   refine ls_skip (d := some 17) (by kernel_rfl) (by rw [hb_6]; kernel_rfl) ?_
   refine ls_pick_f (y := (.bool false)) (by kernel_rfl) (by rw [hb_6]; kernel_rfl) (by kernel_rfl) ?_
   refine ls_nil (then_normal ?_)
   exact ⟨(fun i => (Ap [] 6).getD i ud), (.bool false), by kernel_rfl, HA_12, H⟩
  ·rintro _ w_13 ⟨D_5, x18, rfl, HA_13, H⟩
   refine ls_assign (x := x18) (by kernel_rfl) (by kernel_rfl) ?_
   refine ls_nil (then_normal ?_)
   refine fr_eq (b := ⟨([x0, x1, ud, ud, (.bool false), ud, ud, x18, x0, x9, x10, x10] ++ (Ad D_5 0 6 (Ap [x18] 72))).toArray, []⟩) (by kernel_rfl) ?_
   refine wp_if rfl H (fun H => ?_) (fun H => ?_)
   ·refine lwp_list ?_
    refine ls_move (x := x0) (by kernel_rfl) (by kernel_rfl) ?_
    refine ls_move (x := x0) (by kernel_rfl) (by kernel_rfl) ?_
    refine ls_p (d := some 21) (by kernel_rfl) (by kernel_rfl) (p_nil (by kernel_rfl) H) (fun x21 H => ?_)
    refine ls_p (d := some 22) (by kernel_rfl) (by kernel_rfl) (p_off Try.underlying72 rfl (fun w => ⟨_, Try.sizeOf30 w⟩) rfl (by kernel_rfl) H) (fun x22 H => ?_)
    refine ls_y (d := some 23) (by kernel_rfl) (by kernel_rfl) HA_13 (y_ld Try.isAgg30 (by kernel_rfl) H) (fun x23 H => ?_)
    refine ls_move (x := x1) (by kernel_rfl) (by kernel_rfl) ?_
    refine ls_fr (b := ⟨([x0, x1, ud, ud, (.bool false), ud, ud, x18, x0, x9, x10, x10] ++ (Ad D_5 0 6 (Ap [x18, x0, x0, x21, x22, x23, x1] 66))).toArray, []⟩) (by kernel_rfl) ?_
    refine ls_d (d := some 25) (by kernel_rfl) (by kernel_rfl) HA_13 (d_slit (zc := #[.int .u8 0]) Try.underlying30 Try.sizeOf5 (by decide) (.inr ⟨by decide, _, Try.zeroValue5, (by kernel_rfl)⟩) (by kernel_rfl) (by kernel_rfl) H) (fun x25 h_13 w_14 H HA_14 => ?_)
    refine ls_d (d := some 26) (by kernel_rfl) (by kernel_rfl) HA_14 (d_app (z := #[.int .u8 0]) Try.underlying30 Try.underlying30 (.inl ⟨_, rfl⟩) Try.typeInfo5 (by kernel_rfl) Try.sizeOf5 Try.zeroValue5 (by kernel_rfl) (by kernel_rfl) (by kernel_rfl) H) (fun x26 h_14 w_15 H HA_15 => ?_)
    refine ls_p (d := some 27) (by kernel_rfl) (by kernel_rfl) (p_nil (by kernel_rfl) H) (fun x27 H => ?_)
    refine ls_p (d := some 28) (by kernel_rfl) (by kernel_rfl) (p_off Try.underlying72 rfl (fun w => ⟨_, Try.sizeOf30 w⟩) rfl (by kernel_rfl) H) (fun x28 H => ?_)
    refine ls_d (d := none) (by kernel_rfl) (by kernel_rfl) HA_15 (d_st Try.sizeOf30 (by kernel_rfl) (by kernel_rfl) H) (fun _ h_15 w_16 H HA_16 => ?_)
    refine ls_nil ?_
    refine block_normal ?_
    exact ⟨(fun i => ([(.bool false), ud, ud, x18, x0, x9, x10, x10] ++ (Ad D_5 0 6 (Ap [x18, x0, x0, x21, x22, x23, x1, x25, x26, x27, x28] 34))).getD i ud), h_15, by kernel_rfl, HA_16, H⟩
   ·refine wp_seq (lwp_list ?_)
    refine ls_move (x := x0) (by kernel_rfl) (by kernel_rfl) ?_
    refine ls_d (d := some 31) (by kernel_rfl) (by kernel_rfl) HA_13 (d_call (by kernel_rfl) (by kernel_rfl) H) (fun x31 h_16 w_17 H HA_17 => ?_)
    refine ls_move (x := x31) (by kernel_rfl) (by kernel_rfl) ?_
    refine ls_andh [(), (), (), (), (), (), (), (), (), (), (), (), (), (), (), (), (), (), (), ()] (fun K a w => ∃ (D_6 : Nat → Value) (x52 : Value) (h_17 : Heap), a = ⟨([x0, x1, ud, ud, (.bool false), ud, ud, x18, x0, x9, x10, x10] ++ (Ad D_5 0 6 (Aq [x18] 11 ([x0, x31, x31] ++ (Ad D_6 0 19 (Ap [x52] 38)))))).toArray, []⟩ ∧ At w0 w h_17 ∧ K x52 h_17) H (fun hb_3 H => ?_) (fun hb_3 H => ?_) ?_
    ·refine ls_move (x := x0) (by rw [hb_3]; kernel_rfl) (by kernel_rfl) ?_
     refine ls_p (d := some 34) (by kernel_rfl) (by rw [hb_3]; kernel_rfl) (p_nil (by kernel_rfl) H) (fun x34 H => ?_)
     refine ls_p (d := some 35) (by kernel_rfl) (by rw [hb_3]; kernel_rfl) (p_off Try.underlying72 rfl (fun w => ⟨_, Try.sizeOf30 w⟩) rfl (by kernel_rfl) H) (fun x35 H => ?_)
     refine ls_fr (b := ⟨([x0, x1, ud, ud, (.bool false), ud, ud, x18, x0, x9, x10, x10] ++ (Ad D_5 0 6 (Aq [x18] 11 (Ap [x0, x31, x31, x0, x34, x35] 55)))).toArray, []⟩) (by kernel_rfl) ?_
     refine ls_y (d := some 36) (by kernel_rfl) (by rw [hb_3]; kernel_rfl) HA_17 (y_ld Try.isAgg30 (by kernel_rfl) H) (fun x36 H => ?_)
     refine ls_p (d := some 37) (by kernel_rfl) (by rw [hb_3]; kernel_rfl) (p_len Try.underlying30 (by kernel_rfl) H) (fun x37 H => ?_)
     refine ls_p (d := some 38) (by kernel_rfl) (by rw [hb_3]; kernel_rfl) (p_sLt (by kernel_rfl) (by kernel_rfl) H) (fun x38 H => ?_)
     refine ls_move (x := x38) (by rw [hb_3]; kernel_rfl) (by kernel_rfl) ?_
     refine ls_orh [(), (), (), (), (), (), (), (), (), (), (), ()] (fun K a w => ∃ (D_7 : Nat → Value) (x51 : Value) (h_22 : Heap), a = ⟨([x0, x1, ud, ud, (.bool false), ud, ud, x18, x0, x9, x10, x10] ++ (Ad D_5 0 6 (Aq [x18] 11 ([x0, x31, x31, x0, x34, x35, x36, x37, x38, x38] ++ (Ad D_7 0 11 (Ap [x51] 39)))))).toArray, []⟩ ∧ At w0 w h_22 ∧ K x51 h_22) H (fun hb_4 H => ?_) (fun hb_4 H => ?_) ?_
     ·refine ls_move (x := x0) (by rw [hb_4]; kernel_rfl) (by kernel_rfl) ?_
      refine ls_move (x := x1) (by rw [hb_4]; kernel_rfl) (by kernel_rfl) ?_
      refine ls_fr (b := ⟨([x0, x1, ud, ud, (.bool false), ud, ud, x18, x0, x9, x10, x10] ++ (Ad D_5 0 6 (Aq [x18] 11 (Ap [x0, x31, x31, x0, x34, x35, x36, x37, x38, x38, x0, x1] 49)))).toArray, []⟩) (by kernel_rfl) ?_
      refine ls_d (d := some 42) (by kernel_rfl) (by rw [hb_4]; kernel_rfl) HA_17 (d_call (by kernel_rfl) (by kernel_rfl) H) (fun x42 h_23 w_24 H HA_24 => ?_)
      refine ls_move (x := x42) (by rw [hb_4]; kernel_rfl) (by kernel_rfl) ?_
      refine ls_and [(), (), (), (), (), (), ()] (fun K a w => ∃ (D_8 : Nat → Value) (x50 : Value), a = ⟨([x0, x1, ud, ud, (.bool false), ud, ud, x18, x0, x9, x10, x10] ++ (Ad D_5 0 6 (Aq [x18] 11 ([x0, x31, x31, x0, x34, x35, x36, x37, x38, x38, x0, x1, x42, x42] ++ (Ad D_8 0 6 (Ap [x50] 40)))))).toArray, []⟩ ∧ At w0 w h_23 ∧ K x50) H (fun hb_5 H => ?_) (fun hb_5 H => ?_) ?_
      ·refine ls_move (x := x0) (by rw [hb_5]; kernel_rfl) (by kernel_rfl) ?_
       refine ls_p (d := some 45) (by kernel_rfl) (by rw [hb_5]; kernel_rfl) (p_nil (by kernel_rfl) H) (fun x45 H => ?_)
       refine ls_p (d := some 46) (by kernel_rfl) (by rw [hb_5]; kernel_rfl) (p_off Try.underlying72 rfl (fun w => ⟨_, Try.sizeOf30 w⟩) rfl (by kernel_rfl) H) (fun x46 H => ?_)
       refine ls_y (d := some 47) (by kernel_rfl) (by rw [hb_5]; kernel_rfl) HA_24 (y_ld Try.isAgg30 (by kernel_rfl) H) (fun x47 H => ?_)
       refine ls_fr (b := ⟨([x0, x1, ud, ud, (.bool false), ud, ud, x18, x0, x9, x10, x10] ++ (Ad D_5 0 6 (Aq [x18] 11 (Ap [x0, x31, x31, x0, x34, x35, x36, x37, x38, x38, x0, x1, x42, x42, x0, x45, x46, x47] 43)))).toArray, []⟩) (by kernel_rfl) ?_
       refine ls_p (d := some 48) (by kernel_rfl) (by rw [hb_5]; kernel_rfl) (p_len Try.underlying30 (by kernel_rfl) H) (fun x48 H => ?_)
       refine ls_p (d := some 49) (by kernel_rfl) (by rw [hb_5]; kernel_rfl) (p_sLt (by kernel_rfl) (by kernel_rfl) H) (fun x49 H => ?_)
       refine ls_pick_t (x := x49) (by rw [hb_4]; kernel_rfl) (by rw [hb_5]; kernel_rfl) (by kernel_rfl) ?_
       refine ls_nil (then_normal ?_)
       exact ⟨(fun i => ([x0, x45, x46, x47, x48, x49]).getD i ud), x49, by kernel_rfl, HA_24, H⟩
      ·refine ls_skip (d := some 44) (by kernel_rfl) (by rw [hb_5]; kernel_rfl) ?_
       refine ls_skip (d := some 45) (by kernel_rfl) (by rw [hb_5]; kernel_rfl) ?_
       refine ls_skip (d := some 46) (by kernel_rfl) (by rw [hb_5]; kernel_rfl) ?_
       refine ls_skip (d := some 47) (by kernel_rfl) (by rw [hb_5]; kernel_rfl) ?_
       refine ls_fr (b := ⟨([x0, x1, ud, ud, (.bool false), ud, ud, x18, x0, x9, x10, x10] ++ (Ad D_5 0 6 (Aq [x18] 11 (Ap [x0, x31, x31, x0, x34, x35, x36, x37, x38, x38, x0, x1, x42, x42] 47)))).toArray, []⟩) (by kernel_rfl) ?_
       refine ls_skip (d := some 48) (by kernel_rfl) (by rw [hb_5]; kernel_rfl) ?_
       refine ls_skip (d := some 49) (by kernel_rfl) (by rw [hb_5]; kernel_rfl) ?_
       refine ls_pick_f (y := (.bool false)) (by rw [hb_4]; kernel_rfl) (by rw [hb_5]; kernel_rfl) (by kernel_rfl) ?_
       refine ls_nil (then_normal ?_)
       exact ⟨(fun i => (Ap [] 6).getD i ud), (.bool false), by kernel_rfl, HA_24, H⟩
      ·rintro _ w_25 ⟨D_8, x50, rfl, HA_25, H⟩
       refine ls_pick_f (y := x50) (by rw [hb_3]; kernel_rfl) (by rw [hb_4]; kernel_rfl) (by kernel_rfl) ?_
       refine ls_nil (then_normal ?_)
       exact ⟨(fun i => ([x0, x1, x42, x42] ++ (Ad D_8 0 6 [x50])).getD i ud), x50, h_23, by kernel_rfl, HA_25, H⟩
     ·refine ls_skip (d := some 40) (by kernel_rfl) (by rw [hb_4]; kernel_rfl) ?_
      refine ls_skip (d := some 41) (by kernel_rfl) (by rw [hb_4]; kernel_rfl) ?_
      refine ls_fr (b := ⟨([x0, x1, ud, ud, (.bool false), ud, ud, x18, x0, x9, x10, x10] ++ (Ad D_5 0 6 (Aq [x18] 11 (Ap [x0, x31, x31, x0, x34, x35, x36, x37, x38, x38] 51)))).toArray, []⟩) (by kernel_rfl) ?_
      refine ls_skip (d := some 42) (by kernel_rfl) (by rw [hb_4]; kernel_rfl) ?_
      refine ls_skip (d := some 43) (by kernel_rfl) (by rw [hb_4]; kernel_rfl) ?_
      refine ls_skip (d := some 44) (by kernel_rfl) (by kernel_rfl) ?_
      refine ls_skip (d := some 45) (by kernel_rfl) (by kernel_rfl) ?_
      refine ls_skip (d := some 46) (by kernel_rfl) (by kernel_rfl) ?_
      refine ls_skip (d := some 47) (by kernel_rfl) (by kernel_rfl) ?_
      refine ls_fr (b := ⟨([x0, x1, ud, ud, (.bool false), ud, ud, x18, x0, x9, x10, x10] ++ (Ad D_5 0 6 (Aq [x18] 11 (Ap [x0, x31, x31, x0, x34, x35, x36, x37, x38, x38] 51)))).toArray, []⟩) (by kernel_rfl) ?_
      refine ls_skip (d := some 48) (by kernel_rfl) (by kernel_rfl) ?_
      refine ls_skip (d := some 49) (by kernel_rfl) (by kernel_rfl) ?_
      refine ls_skip (d := some 50) (by kernel_rfl) (by rw [hb_4]; kernel_rfl) ?_
      refine ls_pick_t (x := (.bool true)) (by rw [hb_3]; kernel_rfl) (by rw [hb_4]; kernel_rfl) (by kernel_rfl) ?_
      refine ls_nil (then_normal ?_)
      exact ⟨(fun i => (Ap [] 11).getD i ud), (.bool true), h_16, by kernel_rfl, HA_17, H⟩
     ·rintro _ w_23 ⟨D_7, x51, h_22, rfl, HA_23, H⟩
      refine ls_pick_t (x := x51) (by kernel_rfl) (by rw [hb_3]; kernel_rfl) (by kernel_rfl) ?_
      refine ls_nil (then_normal ?_)
      exact ⟨(fun i => ([x0, x34, x35, x36, x37, x38, x38] ++ (Ad D_7 0 11 [x51])).getD i ud), x51, h_22, by kernel_rfl, HA_23, H⟩
    ·refine ls_skip (d := some 33) (by kernel_rfl) (by rw [hb_3]; kernel_rfl) ?_
     refine ls_skip (d := some 34) (by kernel_rfl) (by rw [hb_3]; kernel_rfl) ?_
     refine ls_skip (d := some 35) (by kernel_rfl) (by rw [hb_3]; kernel_rfl) ?_
     refine ls_fr (b := ⟨([x0, x1, ud, ud, (.bool false), ud, ud, x18, x0, x9, x10, x10] ++ (Ad D_5 0 6 (Aq [x18] 11 (Ap [x0, x31, x31] 58)))).toArray, []⟩) (by kernel_rfl) ?_
     refine ls_skip (d := some 36) (by kernel_rfl) (by rw [hb_3]; kernel_rfl) ?_
     refine ls_skip (d := some 37) (by kernel_rfl) (by rw [hb_3]; kernel_rfl) ?_
     refine ls_skip (d := some 38) (by kernel_rfl) (by rw [hb_3]; kernel_rfl) ?_
     refine ls_skip (d := some 39) (by kernel_rfl) (by rw [hb_3]; kernel_rfl) ?_
     refine ls_skip (d := some 40) (by kernel_rfl) (by kernel_rfl) ?_
     refine ls_skip (d := some 41) (by kernel_rfl) (by kernel_rfl) ?_
     refine ls_fr (b := ⟨([x0, x1, ud, ud, (.bool false), ud, ud, x18, x0, x9, x10, x10] ++ (Ad D_5 0 6 (Aq [x18] 11 (Ap [x0, x31, x31] 58)))).toArray, []⟩) (by kernel_rfl) ?_
     refine ls_skip (d := some 42) (by kernel_rfl) (by kernel_rfl) ?_
     refine ls_skip (d := some 43) (by kernel_rfl) (by kernel_rfl) ?_
     refine ls_skip (d := some 44) (by kernel_rfl) (by kernel_rfl) ?_
     refine ls_skip (d := some 45) (by kernel_rfl) (by kernel_rfl) ?_
     refine ls_skip (d := some 46) (by kernel_rfl) (by kernel_rfl) ?_
     refine ls_skip (d := some 47) (by kernel_rfl) (by kernel_rfl) ?_
     refine ls_fr (b := ⟨([x0, x1, ud, ud, (.bool false), ud, ud, x18, x0, x9, x10, x10] ++ (Ad D_5 0 6 (Aq [x18] 11 (Ap [x0, x31, x31] 58)))).toArray, []⟩) (by kernel_rfl) ?_
     refine ls_skip (d := some 48) (by kernel_rfl) (by kernel_rfl) ?_
     refine ls_skip (d := some 49) (by kernel_rfl) (by kernel_rfl) ?_
     refine ls_skip (d := some 50) (by kernel_rfl) (by kernel_rfl) ?_
     refine ls_skip (d := some 51) (by kernel_rfl) (by rw [hb_3]; kernel_rfl) ?_
     refine ls_pick_f (y := (.bool false)) (by kernel_rfl) (by rw [hb_3]; kernel_rfl) (by kernel_rfl) ?_
     refine ls_nil (then_normal ?_)
     exact ⟨(fun i => (Ap [] 19).getD i ud), (.bool false), h_16, by kernel_rfl, HA_17, H⟩
    ·rintro _ w_18 ⟨D_6, x52, h_17, rfl, HA_18, H⟩
     refine ls_assign (x := x52) (by kernel_rfl) (by kernel_rfl) ?_
     refine ls_nil (then_normal ?_)
     refine fr_eq (b := ⟨([x0, x1, ud, ud, (.bool false), ud, ud, x18, x0, x9, x10, x10] ++ (Ad D_5 0 6 (Aq [x18] 10 ([x52, x0, x31, x31] ++ (Ad D_6 0 19 (Ap [x52] 38)))))).toArray, []⟩) (by kernel_rfl) ?_
     refine wp_if rfl H (fun H => ?_) (fun H => ?_)
     ·refine lwp_list ?_
      refine ls_move (x := x0) (by kernel_rfl) (by kernel_rfl) ?_
      refine ls_move (x := x0) (by kernel_rfl) (by kernel_rfl) ?_
      refine ls_p (d := some 55) (by kernel_rfl) (by kernel_rfl) (p_nil (by kernel_rfl) H) (fun x55 H => ?_)
      refine ls_p (d := some 56) (by kernel_rfl) (by kernel_rfl) (p_off Try.underlying72 rfl (fun w => ⟨_, Try.sizeOf30 w⟩) rfl (by kernel_rfl) H) (fun x56 H => ?_)
      refine ls_y (d := some 57) (by kernel_rfl) (by kernel_rfl) HA_18 (y_ld Try.isAgg30 (by kernel_rfl) H) (fun x57 H => ?_)
      refine ls_move (x := x1) (by kernel_rfl) (by kernel_rfl) ?_
      refine ls_fr (b := ⟨([x0, x1, ud, ud, (.bool false), ud, ud, x18, x0, x9, x10, x10] ++ (Ad D_5 0 6 (Aq [x18] 10 ([x52, x0, x31, x31] ++ (Ad D_6 0 19 (Ap [x52, x0, x0, x55, x56, x57, x1] 32)))))).toArray, []⟩) (by kernel_rfl) ?_
      refine ls_d (d := some 59) (by kernel_rfl) (by kernel_rfl) HA_18 (d_slit (zc := #[.int .u8 0]) Try.underlying30 Try.sizeOf5 (by decide) (.inr ⟨by decide, _, Try.zeroValue5, (by kernel_rfl)⟩) (by kernel_rfl) (by kernel_rfl) H) (fun x59 h_18 w_19 H HA_19 => ?_)
      refine ls_d (d := some 60) (by kernel_rfl) (by kernel_rfl) HA_19 (d_app (z := #[.int .u8 0]) Try.underlying30 Try.underlying30 (.inl ⟨_, rfl⟩) Try.typeInfo5 (by kernel_rfl) Try.sizeOf5 Try.zeroValue5 (by kernel_rfl) (by kernel_rfl) (by kernel_rfl) H) (fun x60 h_19 w_20 H HA_20 => ?_)
      refine ls_p (d := some 61) (by kernel_rfl) (by kernel_rfl) (p_nil (by kernel_rfl) H) (fun x61 H => ?_)
      refine ls_p (d := some 62) (by kernel_rfl) (by kernel_rfl) (p_off Try.underlying72 rfl (fun w => ⟨_, Try.sizeOf30 w⟩) rfl (by kernel_rfl) H) (fun x62 H => ?_)
      refine ls_d (d := none) (by kernel_rfl) (by kernel_rfl) HA_20 (d_st Try.sizeOf30 (by kernel_rfl) (by kernel_rfl) H) (fun _ h_20 w_21 H HA_21 => ?_)
      refine ls_nil ?_
      refine block_normal ?_
      exact ⟨(fun i => ([(.bool false), ud, ud, x18, x0, x9, x10, x10] ++ (Ad D_5 0 6 (Aq [x18] 10 ([x52, x0, x31, x31] ++ (Ad D_6 0 19 [x52, x0, x0, x55, x56, x57, x1, x59, x60, x61, x62]))))).getD i ud), h_20, by kernel_rfl, HA_21, H⟩
     ·refine wp_seq (lwp_list ?_)
      refine ls_move (x := x0) (by kernel_rfl) (by kernel_rfl) ?_
      refine ls_d (d := some 6) (by kernel_rfl) (by kernel_rfl) HA_18 (d_call (by kernel_rfl) (by kernel_rfl) H) (fun x6 h_21 w_22 H HA_22 => ?_)
      refine ls_nil (then_normal ?_)
      refine fr_eq (b := ⟨([x0, x1, ud, ud, (.bool false), x0, x6, x18, x0, x9, x10, x10] ++ (Ad D_5 0 6 (Aq [x18] 10 ([x52, x0, x31, x31] ++ (Ad D_6 0 19 (Ap [x52] 38)))))).toArray, []⟩) (by kernel_rfl) ?_
      refine wp_seq (lwp_list ?_)
      refine ls_assign (x := (.bool false)) (by kernel_rfl) (by kernel_rfl) ?_
      refine ls_nil (then_normal ?_)
      refine fr_eq (b := ⟨([x0, x1, ud, ud, (.bool false), x0, x6, x18, x0, x9, x10, x10] ++ (Ad D_5 0 6 (Aq [x18] 10 ([x52, x0, x31, x31] ++ (Ad D_6 0 19 (Ap [x52] 38)))))).toArray, []⟩) (by kernel_rfl) ?_
      refine wp_ret ?_
      refine block_ret ?_
      refine then_ret ?_
      refine then_ret ?_
      exact end1 (Try.results62) (by kernel_rfl) (by kernel_rfl) HA_22 H _ (.inr rfl)
 ·rintro _ w ⟨D, h, rfl, HA, H⟩
  unfold ldisc_Disc_put_j1 at H
  refine then_normal ?_
  refine fr_eq (b := ⟨([x0, x1, ud, ud] ++ (Ad D 0 59 (Ap [] 28))).toArray, []⟩) (by kernel_rfl) ?_
  refine wp_seq ?_
  refine wp_seq (lwp_list ?_)
  refine ls_move (x := x1) (by kernel_rfl) (by kernel_rfl) ?_
  refine ls_p (d := some 64) (by kernel_rfl) (by kernel_rfl) (p_sEq (by kernel_rfl) (by kernel_rfl) H) (fun x64 H => ?_)
  refine ls_move (x := x64) (by kernel_rfl) (by kernel_rfl) ?_
  refine ls_andh [(), (), ()] (fun K a w => ∃ (D_1 : Nat → Value) (x68 : Value) (h_1 : Heap), a = ⟨([x0, x1, ud, ud] ++ (Ad D 0 59 (Ap [x1, x64, x64, (D_1 0), (D_1 1), x68] 22))).toArray, []⟩ ∧ At w0 w h_1 ∧ K x68 h_1) H (fun hb_2 H => ?_) (fun hb_2 H => ?_) ?_
  ·refine ls_move (x := x0) (by rw [hb_2]; kernel_rfl) (by kernel_rfl) ?_
   refine ls_d (d := some 67) (by kernel_rfl) (by rw [hb_2]; kernel_rfl) HA (d_call (by kernel_rfl) (by kernel_rfl) H) (fun x67 h_11 w_11 H HA_11 => ?_)
   refine ls_pick_t (x := x67) (by kernel_rfl) (by rw [hb_2]; kernel_rfl) (by kernel_rfl) ?_
   refine ls_nil (then_normal ?_)
   exact ⟨(fun i => ([x0, x67]).getD i ud), x67, h_11, by kernel_rfl, HA_11, H⟩
  ·refine ls_skip (d := some 66) (by kernel_rfl) (by rw [hb_2]; kernel_rfl) ?_
   refine ls_skip (d := some 67) (by kernel_rfl) (by rw [hb_2]; kernel_rfl) ?_
   refine ls_pick_f (y := (.bool false)) (by kernel_rfl) (by rw [hb_2]; kernel_rfl) (by kernel_rfl) ?_
   refine ls_nil (then_normal ?_)
   exact ⟨(fun i => ([ud, ud]).getD i ud), (.bool false), h, by kernel_rfl, HA, H⟩
  ·rintro _ w_1 ⟨D_1, x68, h_1, rfl, HA_1, H⟩
   refine ls_move (x := x68) (by kernel_rfl) (by kernel_rfl) ?_
   refine ls_andh [(), (), ()] (fun K a w => ∃ (D_2 : Nat → Value) (x72 : Value) (h_2 : Heap), a = ⟨([x0, x1, ud, ud] ++ (Ad D 0 59 (Ap [x1, x64, x64, (D_1 0), (D_1 1), x68, x68, (D_2 0), (D_2 1), x72] 18))).toArray, []⟩ ∧ At w0 w h_2 ∧ K x72 h_2) H (fun hb_1 H => ?_) (fun hb_1 H => ?_) ?_
   ·refine ls_move (x := x0) (by rw [hb_1]; kernel_rfl) (by kernel_rfl) ?_
    refine ls_d (d := some 71) (by kernel_rfl) (by rw [hb_1]; kernel_rfl) HA_1 (d_call (by kernel_rfl) (by kernel_rfl) H) (fun x71 h_10 w_10 H HA_10 => ?_)
    refine ls_pick_t (x := x71) (by kernel_rfl) (by rw [hb_1]; kernel_rfl) (by kernel_rfl) ?_
    refine ls_nil (then_normal ?_)
    exact ⟨(fun i => ([x0, x71]).getD i ud), x71, h_10, by kernel_rfl, HA_10, H⟩
   ·refine ls_skip (d := some 70) (by kernel_rfl) (by rw [hb_1]; kernel_rfl) ?_
    refine ls_skip (d := some 71) (by kernel_rfl) (by rw [hb_1]; kernel_rfl) ?_
    refine ls_pick_f (y := (.bool false)) (by kernel_rfl) (by rw [hb_1]; kernel_rfl) (by kernel_rfl) ?_
    refine ls_nil (then_normal ?_)
    exact ⟨(fun i => ([ud, ud]).getD i ud), (.bool false), h_1, by kernel_rfl, HA_1, H⟩
   ·rintro _ w_2 ⟨D_2, x72, h_2, rfl, HA_2, H⟩
    refine ls_move (x := x72) (by kernel_rfl) (by kernel_rfl) ?_
    refine ls_andh [(), (), (), ()] (fun K a w => ∃ (D_3 : Nat → Value) (x77 : Value) (h_3 : Heap), a = ⟨([x0, x1, ud, ud] ++ (Ad D 0 59 (Ap [x1, x64, x64, (D_1 0), (D_1 1), x68, x68, (D_2 0), (D_2 1), x72, x72, (D_3 0), (D_3 1), (D_3 2), x77] 13))).toArray, []⟩ ∧ At w0 w h_3 ∧ K x77 h_3) H (fun hb H => ?_) (fun hb H => ?_) ?_
    ·refine ls_move (x := x0) (by rw [hb]; kernel_rfl) (by kernel_rfl) ?_
     refine ls_d (d := some 75) (by kernel_rfl) (by rw [hb]; kernel_rfl) HA_2 (d_call (by kernel_rfl) (by kernel_rfl) H) (fun x75 h_9 w_9 H HA_9 => ?_)
     refine ls_p (d := some 76) (by kernel_rfl) (by rw [hb]; kernel_rfl) (p_not (by kernel_rfl) H) (fun x76 H => ?_)
     refine ls_pick_t (x := x76) (by kernel_rfl) (by rw [hb]; kernel_rfl) (by kernel_rfl) ?_
     refine ls_nil (then_normal ?_)
     exact ⟨(fun i => ([x0, x75, x76]).getD i ud), x76, h_9, by kernel_rfl, HA_9, H⟩
    ·refine ls_skip (d := some 74) (by kernel_rfl) (by rw [hb]; kernel_rfl) ?_
     refine ls_skip (d := some 75) (by kernel_rfl) (by rw [hb]; kernel_rfl) ?_
     refine ls_skip (d := some 76) (by kernel_rfl) (by rw [hb]; kernel_rfl) ?_
     refine ls_pick_f (y := (.bool false)) (by kernel_rfl) (by rw [hb]; kernel_rfl) (by kernel_rfl) ?_
     refine ls_nil (then_normal ?_)
     exact ⟨(fun i => ([ud, ud, ud]).getD i ud), (.bool false), h_2, by kernel_rfl, HA_2, H⟩
    ·rintro _ w_3 ⟨D_3, x77, h_3, rfl, HA_3, H⟩
     refine ls_nil (then_normal ?_)
     refine fr_eq (b := ⟨([x0, x1, ud, ud] ++ (Ad D 0 59 (Ap [x1, x64, x64, (D_1 0), (D_1 1), x68, x68, (D_2 0), (D_2 1), x72, x72, (D_3 0), (D_3 1), (D_3 2), x77] 13))).toArray, []⟩) (by kernel_rfl) ?_
     refine wp_join (fun a w => ∃ (D_4 : Nat → Value) (h_4 : Heap), a = ⟨([x0, x1, ud, ud] ++ (Ad D 0 59 ([x1, x64, x64, (D_1 0), (D_1 1), x68, x68, (D_2 0), (D_2 1), x72, x72, (D_3 0), (D_3 1), (D_3 2), x77] ++ (Ad D_4 0 10 [ud, ud, ud])))).toArray, []⟩ ∧ At w0 w h_4 ∧ ldisc_Disc_put_j2 R x0 x1 h_4) ?_ ?_
     ·refine wp_if rfl H (fun H => ?_) (fun H => ?_)
      ·refine lwp_list ?_
       refine ls_move (x := x0) (by kernel_rfl) (by kernel_rfl) ?_
       refine ls_move (x := x0) (by kernel_rfl) (by kernel_rfl) ?_
       refine ls_p (d := some 80) (by kernel_rfl) (by kernel_rfl) (p_nil (by kernel_rfl) H) (fun x80 H => ?_)
       refine ls_p (d := some 81) (by kernel_rfl) (by kernel_rfl) (p_off Try.underlying72 rfl (fun w => ⟨_, Try.sizeOf30 w⟩) rfl (by kernel_rfl) H) (fun x81 H => ?_)
       refine ls_y (d := some 82) (by kernel_rfl) (by kernel_rfl) HA_3 (y_ld Try.isAgg30 (by kernel_rfl) H) (fun x82 H => ?_)
       refine ls_move (x := x1) (by kernel_rfl) (by kernel_rfl) ?_
       refine ls_fr (b := ⟨([x0, x1, ud, ud] ++ (Ad D 0 59 (Ap [x1, x64, x64, (D_1 0), (D_1 1), x68, x68, (D_2 0), (D_2 1), x72, x72, (D_3 0), (D_3 1), (D_3 2), x77, x0, x0, x80, x81, x82, x1] 7))).toArray, []⟩) (by kernel_rfl) ?_
       refine ls_d (d := some 84) (by kernel_rfl) (by kernel_rfl) HA_3 (d_slit (zc := #[.int .u8 0]) Try.underlying30 Try.sizeOf5 (by decide) (.inr ⟨by decide, _, Try.zeroValue5, (by kernel_rfl)⟩) (by kernel_rfl) (by kernel_rfl) H) (fun x84 h_6 w_6 H HA_6 => ?_)
       refine ls_d (d := some 85) (by kernel_rfl) (by kernel_rfl) HA_6 (d_app (z := #[.int .u8 0]) Try.underlying30 Try.underlying30 (.inl ⟨_, rfl⟩) Try.typeInfo5 (by kernel_rfl) Try.sizeOf5 Try.zeroValue5 (by kernel_rfl) (by kernel_rfl) (by kernel_rfl) H) (fun x85 h_7 w_7 H HA_7 => ?_)
       refine ls_p (d := some 86) (by kernel_rfl) (by kernel_rfl) (p_nil (by kernel_rfl) H) (fun x86 H => ?_)
       refine ls_p (d := some 87) (by kernel_rfl) (by kernel_rfl) (p_off Try.underlying72 rfl (fun w => ⟨_, Try.sizeOf30 w⟩) rfl (by kernel_rfl) H) (fun x87 H => ?_)
       refine ls_d (d := none) (by kernel_rfl) (by kernel_rfl) HA_7 (d_st Try.sizeOf30 (by kernel_rfl) (by kernel_rfl) H) (fun _ h_8 w_8 H HA_8 => ?_)
       refine ls_nil ?_
       exact ⟨(fun i => ([x0, x0, x80, x81, x82, x1, x84, x85, x86, x87]).getD i ud), h_8, by kernel_rfl, HA_8, H⟩
      ·refine wp_skip ?_
       exact ⟨(fun i => (Ap [] 10).getD i ud), h_3, by kernel_rfl, HA_3, H⟩
     ·rintro _ w_4 ⟨D_4, h_4, rfl, HA_4, H⟩
      unfold ldisc_Disc_put_j2 at H
      refine then_normal ?_
      refine fr_eq (b := ⟨([x0, x1, ud, ud] ++ (Ad D 0 59 ([x1, x64, x64, (D_1 0), (D_1 1), x68, x68, (D_2 0), (D_2 1), x72, x72, (D_3 0), (D_3 1), (D_3 2), x77] ++ (Ad D_4 0 10 [ud, ud, ud])))).toArray, []⟩) (by kernel_rfl) ?_
      refine wp_seq (lwp_list ?_)
      refine ls_move (x := x0) (by kernel_rfl) (by kernel_rfl) ?_
      refine ls_move (x := x1) (by kernel_rfl) (by kernel_rfl) ?_
      refine ls_d (d := some 90) (by kernel_rfl) (by kernel_rfl) HA_4 (d_call (by kernel_rfl) (by kernel_rfl) H) (fun x90 h_5 w_5 H HA_5 => ?_)
      refine ls_nil (then_normal ?_)
      refine fr_eq (b := ⟨([x0, x1, ud, ud] ++ (Ad D 0 59 ([x1, x64, x64, (D_1 0), (D_1 1), x68, x68, (D_2 0), (D_2 1), x72, x72, (D_3 0), (D_3 1), (D_3 2), x77] ++ (Ad D_4 0 10 [x0, x1, x90])))).toArray, []⟩) (by kernel_rfl) ?_
      refine wp_seq (lwp_list ?_)
      refine ls_assign (x := (.bool true)) (by kernel_rfl) (by kernel_rfl) ?_
      refine ls_nil (then_normal ?_)
      refine fr_eq (b := ⟨([x0, x1, ud, ud, (.bool true)] ++ (Ad D 1 58 ([x1, x64, x64, (D_1 0), (D_1 1), x68, x68, (D_2 0), (D_2 1), x72, x72, (D_3 0), (D_3 1), (D_3 2), x77] ++ (Ad D_4 0 10 [x0, x1, x90])))).toArray, []⟩) (by kernel_rfl) ?_
      refine wp_ret ?_
      exact end1 (Try.results62) (by kernel_rfl) (by kernel_rfl) HA_5 H _ (.inr rfl)

end Go.Proofs.Ytlcklnbgknhhkaa

end

section
/- The shallow reading of one function, and that the function does it. Written by a program. -/
set_option linter.unusedVariables false
namespace Go.Proofs.Ytlcklnbgknhhkaa
open Go Go.HW

def ldisc_Disc_back_l1 (R : Value → Heap → Prop) (x0 x38 : Value) (next : Value → Heap → Prop) (x39 : Value) (h_4 : Heap) : Prop :=
  sLt x39 x38 fun x40 =>
  sIf x40 (sNil x0 fun x43 =>
  sOff x43 22 fun x44 =>
  sLd h_4 x44 fun x45 =>
  sSlit h_4 #[.int .u8 0, .int .u8 0, .int .u8 0] [(0, 1, (.int .u8 8)), (1, 1, (.int .u8 32)), (2, 1, (.int .u8 8))] 5 3 fun x46 h_5 => 
  sApp h_5 x45 x46 #[.int .u8 0] 5 1 fun x47 h_6 => 
  sNil x0 fun x48 =>
  sOff x48 22 fun x49 =>
  sSt h_6 x49 x47 fun h_7 => 
  sAdd .i64 x39 (.int .i64 1) fun x50 =>
  next x50 h_7) (R unit h_4)
def ldisc_Disc_back_S (x0 : Value) (h : Heap) (R : Value → Heap → Prop) : Prop :=
  sNil x0 fun x5 =>
  sOff x5 17 fun x6 =>
  sLd h x6 fun x7 =>
  sLen x7 fun x8 =>
  sNil x0 fun x10 =>
  sOff x10 17 fun x11 =>
  sLd h x11 fun x12 =>
  sSub .i64 x8 (.int .i64 1) fun x14 =>
  sIxS x12 x14 1 fun x15 =>
  sLd h x15 fun x16 =>
  sNil x0 fun x19 =>
  sOff x19 17 fun x20 =>
  sLd h x20 fun x21 =>
  sSub .i64 x8 (.int .i64 1) fun x23 =>
  sSl x21 none (some x23) 1 fun x24 =>
  sNil x0 fun x25 =>
  sOff x25 17 fun x26 =>
  sSt h x26 x24 fun h => 
  ldisc_Disc_local_c x0 (.int .i64 2) h fun x28 h_1 => 
  sNot x28 fun x29 =>
  sOrH x29 h_1 (fun k =>
  ldisc_Disc_local_c x0 (.int .i64 4) h_1 fun x32 h_8 => 
  sNot x32 fun x33 =>
  k x33 h_8) fun x34 h_2 =>
  sIf x34 (R unit h_2) (ldisc_Disc_picture_c x0 x16 h_2 fun x37 h_3 => 
  sLen x37 fun x38 =>
  sLoop (S := Value) (fun nxt s h => ldisc_Disc_back_l1 R x0 x38 (fun x39' h => nxt x39' h) s h) (.int .i64 0) h_3)
set_option maxRecDepth 100000 in
theorem ldisc_Disc_back_runs {x0 : Value} {h : Heap} {R : Value → Heap → Prop} (H : ldisc_Disc_back_S x0 h R) : ldisc_Disc_back_c x0 h R := by
 unfold ldisc_Disc_back_S at H
 refine runs_of (b := ⟨#[x0, ud, ud, ud, ud, ud, ud, ud, ud, ud, ud, ud, ud, ud, ud, ud, ud, ud, ud, ud, ud, ud, ud, ud, ud, ud, ud, ud, ud, ud, ud, ud, ud, ud, ud, ud, ud, ud, ud, ud, ud, ud, ud, ud, ud, ud, ud, ud, ud, ud, ud], []⟩) Try.call80 Try.func80 rfl (by kernel_rfl) (fun w0 HA => ?_)
 refine wp_seq (lwp_list ?_)
 refine ls_move (x := x0) (by kernel_rfl) (by kernel_rfl) ?_
 refine ls_p (d := some 5) (by kernel_rfl) (by kernel_rfl) (p_nil (by kernel_rfl) H) (fun x5 H => ?_)
 refine ls_p (d := some 6) (by kernel_rfl) (by kernel_rfl) (p_off Try.underlying72 rfl (fun w => ⟨_, Try.sizeOf30 w⟩) rfl (by kernel_rfl) H) (fun x6 H => ?_)
 refine ls_y (d := some 7) (by kernel_rfl) (by kernel_rfl) HA (y_ld Try.isAgg30 (by kernel_rfl) H) (fun x7 H => ?_)
 refine ls_p (d := some 8) (by kernel_rfl) (by kernel_rfl) (p_len Try.underlying30 (by kernel_rfl) H) (fun x8 H => ?_)
 refine ls_assign (x := x8) (by kernel_rfl) (by kernel_rfl) ?_
 refine ls_nil (then_normal ?_)
 refine fr_eq (b := ⟨#[x0, ud, x8, ud, x0, x5, x6, x7, x8, ud, ud, ud, ud, ud, ud, ud, ud, ud, ud, ud, ud, ud, ud, ud, ud, ud, ud, ud, ud, ud, ud, ud, ud, ud, ud, ud, ud, ud, ud, ud, ud, ud, ud, ud, ud, ud, ud, ud, ud, ud, ud], []⟩) (by kernel_rfl) ?_
 refine wp_seq (lwp_list ?_)
 refine ls_move (x := x0) (by kernel_rfl) (by kernel_rfl) ?_
 refine ls_p (d := some 10) (by kernel_rfl) (by kernel_rfl) (p_nil (by kernel_rfl) H) (fun x10 H => ?_)
 refine ls_p (d := some 11) (by kernel_rfl) (by kernel_rfl) (p_off Try.underlying72 rfl (fun w => ⟨_, Try.sizeOf30 w⟩) rfl (by kernel_rfl) H) (fun x11 H => ?_)
 refine ls_y (d := some 12) (by kernel_rfl) (by kernel_rfl) HA (y_ld Try.isAgg30 (by kernel_rfl) H) (fun x12 H => ?_)
 refine ls_move (x := x8) (by kernel_rfl) (by kernel_rfl) ?_
 refine ls_p (d := some 14) (by kernel_rfl) (by kernel_rfl) (p_sub (by kernel_rfl) (by kernel_rfl) H) (fun x14 H => ?_)
 refine ls_fr (b := ⟨#[x0, ud, x8, ud, x0, x5, x6, x7, x8, x0, x10, x11, x12, x8, x14, ud, ud, ud, ud, ud, ud, ud, ud, ud, ud, ud, ud, ud, ud, ud, ud, ud, ud, ud, ud, ud, ud, ud, ud, ud, ud, ud, ud, ud, ud, ud, ud, ud, ud, ud, ud], []⟩) (by kernel_rfl) ?_
 refine ls_p (d := some 15) (by kernel_rfl) (by kernel_rfl) (p_ixs Try.underlying30 Try.sizeOf5 (by kernel_rfl) (by kernel_rfl) H) (fun x15 H => ?_)
 refine ls_y (d := some 16) (by kernel_rfl) (by kernel_rfl) HA (y_ld Try.isAgg5 (by kernel_rfl) H) (fun x16 H => ?_)
 refine ls_assign (x := x16) (by kernel_rfl) (by kernel_rfl) ?_
 refine ls_nil (then_normal ?_)
 refine fr_eq (b := ⟨#[x0, ud, x8, x16, x0, x5, x6, x7, x8, x0, x10, x11, x12, x8, x14, x15, x16, ud, ud, ud, ud, ud, ud, ud, ud, ud, ud, ud, ud, ud, ud, ud, ud, ud, ud, ud, ud, ud, ud, ud, ud, ud, ud, ud, ud, ud, ud, ud, ud, ud, ud], []⟩) (by kernel_rfl) ?_
 refine wp_seq (lwp_list ?_)
 refine ls_move (x := x0) (by kernel_rfl) (by kernel_rfl) ?_
 refine ls_move (x := x0) (by kernel_rfl) (by kernel_rfl) ?_
 refine ls_p (d := some 19) (by kernel_rfl) (by kernel_rfl) (p_nil (by kernel_rfl) H) (fun x19 H => ?_)
 refine ls_p (d := some 20) (by kernel_rfl) (by kernel_rfl) (p_off Try.underlying72 rfl (fun w => ⟨_, Try.sizeOf30 w⟩) rfl (by kernel_rfl) H) (fun x20 H => ?_)
 refine ls_y (d := some 21) (by kernel_rfl) (by kernel_rfl) HA (y_ld Try.isAgg30 (by kernel_rfl) H) (fun x21 H => ?_)
 refine ls_move (x := x8) (by kernel_rfl) (by kernel_rfl) ?_
 refine ls_fr (b := ⟨#[x0, ud, x8, x16, x0, x5, x6, x7, x8, x0, x10, x11, x12, x8, x14, x15, x16, x0, x0, x19, x20, x21, x8, ud, ud, ud, ud, ud, ud, ud, ud, ud, ud, ud, ud, ud, ud, ud, ud, ud, ud, ud, ud, ud, ud, ud, ud, ud, ud, ud, ud], []⟩) (by kernel_rfl) ?_
 refine ls_p (d := some 23) (by kernel_rfl) (by kernel_rfl) (p_sub (by kernel_rfl) (by kernel_rfl) H) (fun x23 H => ?_)
 refine ls_p (d := some 24) (by kernel_rfl) (by kernel_rfl) (p_sl Try.underlying30 Try.sizeOf5 (by kernel_rfl) (by kernel_rfl) (by kernel_rfl) H) (fun x24 H => ?_)
 refine ls_p (d := some 25) (by kernel_rfl) (by kernel_rfl) (p_nil (by kernel_rfl) H) (fun x25 H => ?_)
 refine ls_p (d := some 26) (by kernel_rfl) (by kernel_rfl) (p_off Try.underlying72 rfl (fun w => ⟨_, Try.sizeOf30 w⟩) rfl (by kernel_rfl) H) (fun x26 H => ?_)
 refine ls_d (d := none) (by kernel_rfl) (by kernel_rfl) HA (d_st Try.sizeOf30 (by kernel_rfl) (by kernel_rfl) H) (fun _ h w H HA => ?_)
 refine ls_nil (then_normal ?_)
 refine fr_eq (b := ⟨#[x0, ud, x8, x16, x0, x5, x6, x7, x8, x0, x10, x11, x12, x8, x14, x15, x16, x0, x0, x19, x20, x21, x8, x23, x24, x25, x26, ud, ud, ud, ud, ud, ud, ud, ud, ud, ud, ud, ud, ud, ud, ud, ud, ud, ud, ud, ud, ud, ud, ud, ud], []⟩) (by kernel_rfl) ?_
 refine wp_seq ?_
 refine wp_seq (lwp_list ?_)
 refine ls_move (x := x0) (by kernel_rfl) (by kernel_rfl) ?_
 refine ls_d (d := some 28) (by kernel_rfl) (by kernel_rfl) HA (d_call (by kernel_rfl) (by kernel_rfl) H) (fun x28 h_1 w_1 H HA_1 => ?_)
 refine ls_p (d := some 29) (by kernel_rfl) (by kernel_rfl) (p_not (by kernel_rfl) H) (fun x29 H => ?_)
 refine ls_move (x := x29) (by kernel_rfl) (by kernel_rfl) ?_
 refine ls_orh [(), (), (), ()] (fun K a w => ∃ (D : Nat → Value) (x34 : Value) (h_2 : Heap), a = ⟨#[x0, ud, x8, x16, x0, x5, x6, x7, x8, x0, x10, x11, x12, x8, x14, x15, x16, x0, x0, x19, x20, x21, x8, x23, x24, x25, x26, x0, x28, x29, x29, (D 0), (D 1), (D 2), x34, ud, ud, ud, ud, ud, ud, ud, ud, ud, ud, ud, ud, ud, ud, ud, ud], []⟩ ∧ At w0 w h_2 ∧ K x34 h_2) H (fun hb H => ?_) (fun hb H => ?_) ?_
 ·refine ls_move (x := x0) (by rw [hb]; kernel_rfl) (by kernel_rfl) ?_
  refine ls_d (d := some 32) (by kernel_rfl) (by rw [hb]; kernel_rfl) HA_1 (d_call (by kernel_rfl) (by kernel_rfl) H) (fun x32 h_8 w_8 H HA_8 => ?_)
  refine ls_fr (b := ⟨#[x0, ud, x8, x16, x0, x5, x6, x7, x8, x0, x10, x11, x12, x8, x14, x15, x16, x0, x0, x19, x20, x21, x8, x23, x24, x25, x26, x0, x28, x29, x29, x0, x32, ud, ud, ud, ud, ud, ud, ud, ud, ud, ud, ud, ud, ud, ud, ud, ud, ud, ud], []⟩) (by kernel_rfl) ?_
  refine ls_p (d := some 33) (by kernel_rfl) (by rw [hb]; kernel_rfl) (p_not (by kernel_rfl) H) (fun x33 H => ?_)
  refine ls_pick_f (y := x33) (by kernel_rfl) (by rw [hb]; kernel_rfl) (by kernel_rfl) ?_
  refine ls_nil (then_normal ?_)
  exact ⟨(fun i => ([x0, x32, x33]).getD i ud), x33, h_8, by kernel_rfl, HA_8, H⟩
 ·refine ls_skip (d := some 31) (by kernel_rfl) (by rw [hb]; kernel_rfl) ?_
  refine ls_skip (d := some 32) (by kernel_rfl) (by rw [hb]; kernel_rfl) ?_
  refine ls_fr (b := ⟨#[x0, ud, x8, x16, x0, x5, x6, x7, x8, x0, x10, x11, x12, x8, x14, x15, x16, x0, x0, x19, x20, x21, x8, x23, x24, x25, x26, x0, x28, x29, x29, ud, ud, ud, ud, ud, ud, ud, ud, ud, ud, ud, ud, ud, ud, ud, ud, ud, ud, ud, ud], []⟩) (by kernel_rfl) ?_
  refine ls_skip (d := some 33) (by kernel_rfl) (by rw [hb]; kernel_rfl) ?_
  refine ls_pick_t (x := (.bool true)) (by kernel_rfl) (by rw [hb]; kernel_rfl) (by kernel_rfl) ?_
  refine ls_nil (then_normal ?_)
  exact ⟨(fun i => ([ud, ud, ud]).getD i ud), (.bool true), h_1, by kernel_rfl, HA_1, H⟩
 ·rintro _ w_2 ⟨D, x34, h_2, rfl, HA_2, H⟩
  refine ls_nil (then_normal ?_)
  refine fr_eq (b := ⟨#[x0, ud, x8, x16, x0, x5, x6, x7, x8, x0, x10, x11, x12, x8, x14, x15, x16, x0, x0, x19, x20, x21, x8, x23, x24, x25, x26, x0, x28, x29, x29, (D 0), (D 1), (D 2), x34, ud, ud, ud, ud, ud, ud, ud, ud, ud, ud, ud, ud, ud, ud, ud, ud], []⟩) (by kernel_rfl) ?_
  refine wp_if rfl H (fun H => ?_) (fun H => ?_)
  ·refine wp_ret ?_
   refine then_ret ?_
   exact end0 (Try.results80) (by kernel_rfl) HA_2 H _ (.inr rfl)
  ·refine wp_skip ?_
   refine then_normal ?_
   refine fr_eq (b := ⟨#[x0, ud, x8, x16, x0, x5, x6, x7, x8, x0, x10, x11, x12, x8, x14, x15, x16, x0, x0, x19, x20, x21, x8, x23, x24, x25, x26, x0, x28, x29, x29, (D 0), (D 1), (D 2), x34, ud, ud, ud, ud, ud, ud, ud, ud, ud, ud, ud, ud, ud, ud, ud, ud], []⟩) (by kernel_rfl) ?_
   refine wp_seq (lwp_list ?_)
   refine ls_move (x := x0) (by kernel_rfl) (by kernel_rfl) ?_
   refine ls_move (x := x16) (by kernel_rfl) (by kernel_rfl) ?_
   refine ls_d (d := some 37) (by kernel_rfl) (by kernel_rfl) HA_2 (d_call (by kernel_rfl) (by kernel_rfl) H) (fun x37 h_3 w_3 H HA_3 => ?_)
   refine ls_p (d := some 38) (by kernel_rfl) (by kernel_rfl) (p_len Try.underlying30 (by kernel_rfl) H) (fun x38 H => ?_)
   refine ls_move (x := (.int .i64 0)) (by kernel_rfl) (by kernel_rfl) ?_
   refine ls_nil (then_normal ?_)
   refine fr_eq (b := ⟨#[x0, ud, x8, x16, x0, x5, x6, x7, x8, x0, x10, x11, x12, x8, x14, x15, x16, x0, x0, x19, x20, x21, x8, x23, x24, x25, x26, x0, x28, x29, x29, (D 0), (D 1), (D 2), x34, x0, x16, x37, x38, (.int .i64 0), ud, ud, ud, ud, ud, ud, ud, ud, ud, ud, ud], []⟩) (by kernel_rfl) ?_
   refine wp_block ?_
   obtain ⟨I, m, H0, HB⟩ := H
   refine wp_loop (fun a w => ∃ (D_1 : Nat → Value) (x39 : Value) (h_4 : Heap), a = ⟨#[x0, ud, x8, x16, x0, x5, x6, x7, x8, x0, x10, x11, x12, x8, x14, x15, x16, x0, x0, x19, x20, x21, x8, x23, x24, x25, x26, x0, x28, x29, x29, (D 0), (D 1), (D 2), x34, x0, x16, x37, x38, x39, (D_1 0), (D_1 1), (D_1 2), (D_1 3), (D_1 4), (D_1 5), (D_1 6), (D_1 7), (D_1 8), (D_1 9), (D_1 10)], []⟩ ∧ At w0 w h_4 ∧ I x39 h_4) (fun a w => m (a.tmps.getD 39 ud) w.heap) ?_ ?_
   ·exact ⟨(fun i => (Ap [] 11).getD i ud), (.int .i64 0), h_3, by kernel_rfl, HA_3, H0⟩
   ·rintro _ w_4 ⟨D_1, x39, h_4, rfl, HA_4, HI⟩
    have H : ldisc_Disc_back_l1 R x0 x38 (fun x39' h' => I x39' h' ∧ m x39' h' < m x39 h_4) x39 h_4 := HB x39 h_4 HI
    clear HB H0 HI
    unfold ldisc_Disc_back_l1 at H
    refine wp_seq (lwp_list ?_)
    refine ls_p (d := some 40) (by kernel_rfl) (by kernel_rfl) (p_sLt (by kernel_rfl) (by kernel_rfl) H) (fun x40 H => ?_)
    refine ls_nil (then_normal ?_)
    refine fr_eq (b := ⟨#[x0, ud, x8, x16, x0, x5, x6, x7, x8, x0, x10, x11, x12, x8, x14, x15, x16, x0, x0, x19, x20, x21, x8, x23, x24, x25, x26, x0, x28, x29, x29, (D 0), (D 1), (D 2), x34, x0, x16, x37, x38, x39, x40, (D_1 1), (D_1 2), (D_1 3), (D_1 4), (D_1 5), (D_1 6), (D_1 7), (D_1 8), (D_1 9), (D_1 10)], []⟩) (by kernel_rfl) ?_
    refine wp_seq ?_
    refine wp_if rfl H (fun H => ?_) (fun H => ?_)
    ·refine wp_skip ?_
     refine then_normal ?_
     refine fr_eq (b := ⟨#[x0, ud, x8, x16, x0, x5, x6, x7, x8, x0, x10, x11, x12, x8, x14, x15, x16, x0, x0, x19, x20, x21, x8, x23, x24, x25, x26, x0, x28, x29, x29, (D 0), (D 1), (D 2), x34, x0, x16, x37, x38, x39, x40, (D_1 1), (D_1 2), (D_1 3), (D_1 4), (D_1 5), (D_1 6), (D_1 7), (D_1 8), (D_1 9), (D_1 10)], []⟩) (by kernel_rfl) ?_
     refine wp_seq ?_
     refine wp_block ?_
     refine lwp_list ?_
     refine ls_move (x := x0) (by kernel_rfl) (by kernel_rfl) ?_
     refine ls_move (x := x0) (by kernel_rfl) (by kernel_rfl) ?_
     refine ls_p (d := some 43) (by kernel_rfl) (by kernel_rfl) (p_nil (by kernel_rfl) H) (fun x43 H => ?_)
     refine ls_p (d := some 44) (by kernel_rfl) (by kernel_rfl) (p_off Try.underlying72 rfl (fun w => ⟨_, Try.sizeOf30 w⟩) rfl (by kernel_rfl) H) (fun x44 H => ?_)
     refine ls_y (d := some 45) (by kernel_rfl) (by kernel_rfl) HA_4 (y_ld Try.isAgg30 (by kernel_rfl) H) (fun x45 H => ?_)
     refine ls_d (d := some 46) (by kernel_rfl) (by kernel_rfl) HA_4 (d_slit (zc := #[.int .u8 0]) Try.underlying30 Try.sizeOf5 (by decide) (.inr ⟨by decide, _, Try.zeroValue5, (by kernel_rfl)⟩) (by kernel_rfl) (by kernel_rfl) H) (fun x46 h_5 w_5 H HA_5 => ?_)
     refine ls_fr (b := ⟨#[x0, ud, x8, x16, x0, x5, x6, x7, x8, x0, x10, x11, x12, x8, x14, x15, x16, x0, x0, x19, x20, x21, x8, x23, x24, x25, x26, x0, x28, x29, x29, (D 0), (D 1), (D 2), x34, x0, x16, x37, x38, x39, x40, x0, x0, x43, x44, x45, x46, (D_1 7), (D_1 8), (D_1 9), (D_1 10)], []⟩) (by kernel_rfl) ?_
     refine ls_d (d := some 47) (by kernel_rfl) (by kernel_rfl) HA_5 (d_app (z := #[.int .u8 0]) Try.underlying30 Try.underlying30 (.inl ⟨_, rfl⟩) Try.typeInfo5 (by kernel_rfl) Try.sizeOf5 Try.zeroValue5 (by kernel_rfl) (by kernel_rfl) (by kernel_rfl) H) (fun x47 h_6 w_6 H HA_6 => ?_)
     refine ls_p (d := some 48) (by kernel_rfl) (by kernel_rfl) (p_nil (by kernel_rfl) H) (fun x48 H => ?_)
     refine ls_p (d := some 49) (by kernel_rfl) (by kernel_rfl) (p_off Try.underlying72 rfl (fun w => ⟨_, Try.sizeOf30 w⟩) rfl (by kernel_rfl) H) (fun x49 H => ?_)
     refine ls_d (d := none) (by kernel_rfl) (by kernel_rfl) HA_6 (d_st Try.sizeOf30 (by kernel_rfl) (by kernel_rfl) H) (fun _ h_7 w_7 H HA_7 => ?_)
     refine ls_nil ?_
     refine block_normal ?_
     refine then_normal ?_
     refine fr_eq (b := ⟨#[x0, ud, x8, x16, x0, x5, x6, x7, x8, x0, x10, x11, x12, x8, x14, x15, x16, x0, x0, x19, x20, x21, x8, x23, x24, x25, x26, x0, x28, x29, x29, (D 0), (D 1), (D 2), x34, x0, x16, x37, x38, x39, x40, x0, x0, x43, x44, x45, x46, x47, x48, x49, (D_1 10)], []⟩) (by kernel_rfl) ?_
     refine lwp_list ?_
     refine ls_p (d := some 50) (by kernel_rfl) (by kernel_rfl) (p_add (by kernel_rfl) (by kernel_rfl) H) (fun x50 H => ?_)
     refine ls_move (x := x50) (by kernel_rfl) (by kernel_rfl) ?_
     refine ls_nil ?_
     exact ⟨⟨(fun i => ([x40, x0, x0, x43, x44, x45, x46, x47, x48, x49, x50]).getD i ud), x50, h_7, by kernel_rfl, HA_7, H.1⟩, loop_lt HA_7.heap HA_4.heap (by kernel_rfl) (by kernel_rfl) H.2⟩
    ·refine wp_exit ?_
     refine then_exit ?_
     refine then_exit ?_
     refine block_exit ?_
     exact end0 (Try.results80) (by kernel_rfl) HA_4 H _ (.inl rfl)

end Go.Proofs.Ytlcklnbgknhhkaa

end

section
/- The shallow reading of one function, and that the function does it. Written by a program. -/
set_option linter.unusedVariables false
namespace Go.Proofs.Ytlcklnbgknhhkaa
open Go Go.HW

def ldisc_Disc_Flush_S (x0 : Value) (h : Heap) (R : Value → Heap → Prop) : Prop :=
  sNil x0 fun x5 =>
  sOff x5 17 fun x6 =>
  sSt h x6 (.slice none 0 0) fun h => 
  sNil x0 fun x7 =>
  sOff x7 18 fun x8 =>
  sSt h x8 (.slice none 0 0) fun h_1 => 
  sNil x0 fun x9 =>
  sOff x9 19 fun x10 =>
  sSt h_1 x10 (.slice none 0 0) fun h_2 => 
  R unit h_2
set_option maxRecDepth 100000 in
theorem ldisc_Disc_Flush_runs {x0 : Value} {h : Heap} {R : Value → Heap → Prop} (H : ldisc_Disc_Flush_S x0 h R) : ldisc_Disc_Flush_c x0 h R := by
 unfold ldisc_Disc_Flush_S at H
 refine runs_of (b := ⟨#[x0, ud, ud, ud, ud, ud, ud, ud, ud, ud, ud], []⟩) Try.call27 Try.func27 rfl (by kernel_rfl) (fun w0 HA => ?_)
 refine lwp_list ?_
 refine ls_move (x := x0) (by kernel_rfl) (by kernel_rfl) ?_
 refine ls_move (x := x0) (by kernel_rfl) (by kernel_rfl) ?_
 refine ls_move (x := x0) (by kernel_rfl) (by kernel_rfl) ?_
 refine ls_p (d := some 5) (by kernel_rfl) (by kernel_rfl) (p_nil (by kernel_rfl) H) (fun x5 H => ?_)
 refine ls_p (d := some 6) (by kernel_rfl) (by kernel_rfl) (p_off Try.underlying72 rfl (fun w => ⟨_, Try.sizeOf30 w⟩) rfl (by kernel_rfl) H) (fun x6 H => ?_)
 refine ls_d (d := none) (by kernel_rfl) (by kernel_rfl) HA (d_st Try.sizeOf30 (by kernel_rfl) (by kernel_rfl) H) (fun _ h w H HA => ?_)
 refine ls_p (d := some 7) (by kernel_rfl) (by kernel_rfl) (p_nil (by kernel_rfl) H) (fun x7 H => ?_)
 refine ls_p (d := some 8) (by kernel_rfl) (by kernel_rfl) (p_off Try.underlying72 rfl (fun w => ⟨_, Try.sizeOf22 w⟩) rfl (by kernel_rfl) H) (fun x8 H => ?_)
 refine ls_d (d := none) (by kernel_rfl) (by kernel_rfl) HA (d_st Try.sizeOf22 (by kernel_rfl) (by kernel_rfl) H) (fun _ h_1 w_1 H HA_1 => ?_)
 refine ls_p (d := some 9) (by kernel_rfl) (by kernel_rfl) (p_nil (by kernel_rfl) H) (fun x9 H => ?_)
 refine ls_p (d := some 10) (by kernel_rfl) (by kernel_rfl) (p_off Try.underlying72 rfl (fun w => ⟨_, Try.sizeOf30 w⟩) rfl (by kernel_rfl) H) (fun x10 H => ?_)
 refine ls_d (d := none) (by kernel_rfl) (by kernel_rfl) HA_1 (d_st Try.sizeOf30 (by kernel_rfl) (by kernel_rfl) H) (fun _ h_2 w_2 H HA_2 => ?_)
 refine ls_nil ?_
 exact end0 (Try.results27) (by kernel_rfl) HA_2 H _ (.inl rfl)

end Go.Proofs.Ytlcklnbgknhhkaa

end

section
/- The shallow reading of one function, and that the function does it. Written by a program. -/
set_option linter.unusedVariables false
namespace Go.Proofs.Ytlcklnbgknhhkaa
open Go Go.HW

def ldisc_Disc_ready_j1 (R : Value → Heap → Prop) (x0 : Value) (h_1 : Heap) : Prop :=
  sNil x0 fun x27 =>
  sOff x27 17 fun x28 =>
  sSt h_1 x28 (.slice none 0 0) fun h_2 => 
  R unit h_2
def ldisc_Disc_ready_S (x0 : Value) (h : Heap) (R : Value → Heap → Prop) : Prop :=
  ∃ C : Heap → Prop, C h ∧ (ldisc_Disc_Ready_c x0 h fun x3 h => C h ∧ (
  sNil x0 fun x5 =>
  sOff x5 17 fun x6 =>
  sLdC C x6 fun x7 =>
  sLen x7 fun x8 =>
  sAdd .i64 x3 x8 fun x9 =>
  sGt x9 (.int .i64 1024) fun x10 =>
  sIf x10 (ldisc_Disc_bell_c x0 h fun x12 h_3 => 
  ldisc_Disc_ready_j1 R x0 h_3) (∃ C_1 : Heap → Prop, C_1 h ∧ (sNil x0 fun x15 =>
  sOff x15 18 fun x16 =>
  sLdC C_1 x16 fun x17 =>
  sNil x0 fun x19 =>
  sOff x19 17 fun x20 =>
  sLd h x20 fun x21 =>
  sSlit h #[.slice none 0 0] [(0, 1, x21)] 30 1 fun x22 h_4 => C_1 h_4 ∧ (
  sApp h_4 x17 x22 #[.slice none 0 0] 30 24 fun x23 h_5 => 
  sNil x0 fun x24 =>
  sOff x24 18 fun x25 =>
  sSt h_5 x25 x23 fun h_6 => 
  ldisc_Disc_ready_j1 R x0 h_6)))))
set_option maxRecDepth 100000 in
theorem ldisc_Disc_ready_runs {x0 : Value} {h : Heap} {R : Value → Heap → Prop} (H : ldisc_Disc_ready_S x0 h R) : ldisc_Disc_ready_c x0 h R := by
 unfold ldisc_Disc_ready_S at H
 refine runs_of (b := ⟨#[x0, ud, ud, ud, ud, ud, ud, ud, ud, ud, ud, ud, ud, ud, ud, ud, ud, ud, ud, ud, ud, ud, ud, ud, ud, ud, ud, ud, ud], []⟩) Try.call83 Try.func83 rfl (by kernel_rfl) (fun w0 HA => ?_)
 refine wp_seq ?_
 refine wp_seq ?_
 obtain ⟨C, HC, H⟩ := H
 refine lwp_mx (Nat.testBit 2) (Nat.testBit 2) (Nat.testBit 477) [0, 1, 0, 4, 12, 28, 60, 127, 255] (Nat.testBit 0) C [0, 1, 2, 3, 4, 5, 6, 7, 8] (by kernel_rfl) (by kernel_rfl) (by kernel_rfl) (by kernel_rfl) HA HC ?_
 intro w HA
 refine lm_al (x := x0) (d := some 2) (by kernel_rfl) rfl (by kernel_rfl) (by kernel_rfl) (al_move (by kernel_rfl)) ?_
 refine lm_dc (d := some 3) (by kernel_rfl) rfl (by kernel_rfl) (by kernel_rfl) (by kernel_rfl) HA (d_call (by kernel_rfl) (by kernel_rfl) H) (fun x3 h w_1 H HA_1 => ?_)
 refine lm_al (x := x0) (d := some 4) (by kernel_rfl) rfl (by kernel_rfl) (by kernel_rfl) (al_move (by kernel_rfl)) ?_
 refine lm_p (d := some 5) (by kernel_rfl) rfl (by kernel_rfl) (by kernel_rfl) (p_nil (by kernel_rfl) H) (fun x5 H => ?_)
 refine lm_p (d := some 6) (by kernel_rfl) rfl (by kernel_rfl) (by kernel_rfl) (p_off Try.underlying72 rfl (fun w => ⟨_, Try.sizeOf30 w⟩) rfl (by kernel_rfl) H) (fun x6 H => ?_)
 refine lm_f (d := some 7) (by kernel_rfl) rfl (by kernel_rfl) (by kernel_rfl) (by kernel_rfl) (by kernel_rfl) (c_ld Try.isAgg30 (by kernel_rfl) H) (fun x7 H => ?_)
 refine lm_fr (b := ⟨#[x0, ud, x0, x3, x0, x5, x6, x7, ud, ud, ud, ud, ud, ud, ud, ud, ud, ud, ud, ud, ud, ud, ud, ud, ud, ud, ud, ud, ud], []⟩) (by kernel_rfl) ?_
 refine lm_p (d := some 8) (by kernel_rfl) rfl (by kernel_rfl) (by kernel_rfl) (p_len Try.underlying30 (by kernel_rfl) H) (fun x8 H => ?_)
 refine lm_p (d := some 9) (by kernel_rfl) rfl (by kernel_rfl) (by kernel_rfl) (p_add (by kernel_rfl) (by kernel_rfl) H) (fun x9 H => ?_)
 refine lm_p (d := some 10) (by kernel_rfl) rfl (by kernel_rfl) (by kernel_rfl) (p_sGt (by kernel_rfl) (by kernel_rfl) H) (fun x10 H => ?_)
 refine lm_nil ?_
 refine then_normal ?_
 refine fr_eq (b := ⟨#[x0, ud, x0, x3, x0, x5, x6, x7, x8, x9, x10, ud, ud, ud, ud, ud, ud, ud, ud, ud, ud, ud, ud, ud, ud, ud, ud, ud, ud], []⟩) (by kernel_rfl) ?_
 refine wp_join (fun a w => ∃ (D : Nat → Value) (h_1 : Heap), a = ⟨#[x0, ud, x0, x3, x0, x5, x6, x7, x8, x9, x10, (D 0), (D 1), (D 2), (D 3), (D 4), (D 5), (D 6), (D 7), (D 8), (D 9), (D 10), (D 11), (D 12), (D 13), (D 14), ud, ud, ud], []⟩ ∧ At w0 w h_1 ∧ ldisc_Disc_ready_j1 R x0 h_1) ?_ ?_
 ·refine wp_if rfl H (fun H => ?_) (fun H => ?_)
  ·refine lwp_list ?_
   refine ls_move (x := x0) (by kernel_rfl) (by kernel_rfl) ?_
   refine ls_d (d := some 12) (by kernel_rfl) (by kernel_rfl) HA_1 (d_call (by kernel_rfl) (by kernel_rfl) H) (fun x12 h_3 w_4 H HA_4 => ?_)
   refine ls_nil ?_
   exact ⟨(fun i => (Ap [x0, x12] 13).getD i ud), h_3, by kernel_rfl, HA_4, H⟩
  ·obtain ⟨C_1, HC, H⟩ := H
   refine lwp_mx (Nat.testBit 9728) (Nat.testBit 512) (Nat.testBit 6383) [0, 0, 2, 6, 14, 0, 32, 96, 224, 480, 1022, 2047, 4095, 8191] (Nat.testBit 256) C_1 [0, 1, 2, 3, 4, 5, 6, 7, 8, 9, 10, 11, 12, 13] (by kernel_rfl) (by kernel_rfl) (by kernel_rfl) (by kernel_rfl) HA_1 HC ?_
   intro w_5 HA_5
   refine lm_al (x := x0) (d := some 13) (by kernel_rfl) rfl (by kernel_rfl) (by kernel_rfl) (al_move (by kernel_rfl)) ?_
   refine lm_al (x := x0) (d := some 14) (by kernel_rfl) rfl (by kernel_rfl) (by kernel_rfl) (al_move (by kernel_rfl)) ?_
   refine lm_p (d := some 15) (by kernel_rfl) rfl (by kernel_rfl) (by kernel_rfl) (p_nil (by kernel_rfl) H) (fun x15 H => ?_)
   refine lm_p (d := some 16) (by kernel_rfl) rfl (by kernel_rfl) (by kernel_rfl) (p_off Try.underlying72 rfl (fun w => ⟨_, Try.sizeOf22 w⟩) rfl (by kernel_rfl) H) (fun x16 H => ?_)
   refine lm_f (d := some 17) (by kernel_rfl) rfl (by kernel_rfl) (by kernel_rfl) (by kernel_rfl) (by kernel_rfl) (c_ld Try.isAgg22 (by kernel_rfl) H) (fun x17 H => ?_)
   refine lm_al (x := x0) (d := some 18) (by kernel_rfl) rfl (by kernel_rfl) (by kernel_rfl) (al_move (by kernel_rfl)) ?_
   refine lm_fr (b := ⟨#[x0, ud, x0, x3, x0, x5, x6, x7, x8, x9, x10, ud, ud, x0, x0, x15, x16, x17, x0, ud, ud, ud, ud, ud, ud, ud, ud, ud, ud], []⟩) (by kernel_rfl) ?_
   refine lm_p (d := some 19) (by kernel_rfl) rfl (by kernel_rfl) (by kernel_rfl) (p_nil (by kernel_rfl) H) (fun x19 H => ?_)
   refine lm_p (d := some 20) (by kernel_rfl) rfl (by kernel_rfl) (by kernel_rfl) (p_off Try.underlying72 rfl (fun w => ⟨_, Try.sizeOf30 w⟩) rfl (by kernel_rfl) H) (fun x20 H => ?_)
   refine lm_b (d := some 21) (by kernel_rfl) rfl (by kernel_rfl) (by kernel_rfl) (by kernel_rfl) (by kernel_rfl) (y_ld Try.isAgg30 (by kernel_rfl) H) (fun x21 H => ?_)
   refine lm_dc (d := some 22) (by kernel_rfl) rfl (by kernel_rfl) (by kernel_rfl) (by kernel_rfl) HA_5 (d_slit (zc := #[.slice none 0 0]) Try.underlying22 Try.sizeOf30 (by decide) (.inr ⟨by decide, _, Try.zeroValue30, (by kernel_rfl)⟩) (by kernel_rfl) (by kernel_rfl) H) (fun x22 h_4 w_6 H HA_6 => ?_)
   refine lm_d (d := some 23) (by kernel_rfl) rfl (by kernel_rfl) (by kernel_rfl) (by kernel_rfl) HA_6 (d_app (z := #[.slice none 0 0]) Try.underlying22 Try.underlying22 (.inl ⟨_, rfl⟩) Try.typeInfo30 (by kernel_rfl) Try.sizeOf30 Try.zeroValue30 (by kernel_rfl) (by kernel_rfl) (by kernel_rfl) H) (fun x23 h_5 w_7 H HA_7 => ?_)
   refine lm_p (d := some 24) (by kernel_rfl) rfl (by kernel_rfl) (by kernel_rfl) (p_nil (by kernel_rfl) H) (fun x24 H => ?_)
   refine lm_fr (b := ⟨#[x0, ud, x0, x3, x0, x5, x6, x7, x8, x9, x10, ud, ud, x0, x0, x15, x16, x17, x0, x19, x20, x21, x22, x23, x24, ud, ud, ud, ud], []⟩) (by kernel_rfl) ?_
   refine lm_p (d := some 25) (by kernel_rfl) rfl (by kernel_rfl) (by kernel_rfl) (p_off Try.underlying72 rfl (fun w => ⟨_, Try.sizeOf22 w⟩) rfl (by kernel_rfl) H) (fun x25 H => ?_)
   refine lm_d (d := none) (by kernel_rfl) rfl (by kernel_rfl) (by kernel_rfl) (by kernel_rfl) HA_7 (d_st Try.sizeOf22 (by kernel_rfl) (by kernel_rfl) H) (fun _ h_6 w_8 H HA_8 => ?_)
   refine lm_nil ?_
   exact ⟨(fun i => ([ud, ud, x0, x0, x15, x16, x17, x0, x19, x20, x21, x22, x23, x24, x25]).getD i ud), h_6, by kernel_rfl, HA_8, H⟩
 ·rintro _ w_2 ⟨D, h_1, rfl, HA_2, H⟩
  unfold ldisc_Disc_ready_j1 at H
  refine then_normal ?_
  refine fr_eq (b := ⟨#[x0, ud, x0, x3, x0, x5, x6, x7, x8, x9, x10, (D 0), (D 1), (D 2), (D 3), (D 4), (D 5), (D 6), (D 7), (D 8), (D 9), (D 10), (D 11), (D 12), (D 13), (D 14), ud, ud, ud], []⟩) (by kernel_rfl) ?_
  refine lwp_list ?_
  refine ls_move (x := x0) (by kernel_rfl) (by kernel_rfl) ?_
  refine ls_p (d := some 27) (by kernel_rfl) (by kernel_rfl) (p_nil (by kernel_rfl) H) (fun x27 H => ?_)
  refine ls_p (d := some 28) (by kernel_rfl) (by kernel_rfl) (p_off Try.underlying72 rfl (fun w => ⟨_, Try.sizeOf30 w⟩) rfl (by kernel_rfl) H) (fun x28 H => ?_)
  refine ls_d (d := none) (by kernel_rfl) (by kernel_rfl) HA_2 (d_st Try.sizeOf30 (by kernel_rfl) (by kernel_rfl) H) (fun _ h_2 w_3 H HA_3 => ?_)
  refine ls_nil ?_
  exact end0 (Try.results83) (by kernel_rfl) HA_3 H _ (.inl rfl)

end Go.Proofs.Ytlcklnbgknhhkaa

end

section
/- The shallow reading of one function, and that the function does it. Written by a program. -/
set_option linter.unusedVariables false
namespace Go.Proofs.Ytlcklnbgknhhkaa
open Go Go.HW

def ldisc_Disc_Ready_l1 (R : Value → Heap → Prop) (x14 x15 : Value) (next : Value → Value → Heap → Prop) (x3 x16 : Value) (h : Heap) : Prop :=
  sLt x16 x15 fun x17 =>
  sIf x17 (sIxS x14 x16 1 fun x18 =>
  sLd h x18 fun x19 =>
  sLen x19 fun x22 =>
  sAdd .i64 x3 x22 fun x23 =>
  sAdd .i64 x16 (.int .i64 1) fun x24 =>
  next x23 x24 h) (R x3 h)
def ldisc_Disc_Ready_S (x0 : Value) (h : Heap) (R : Value → Heap → Prop) : Prop :=
  sNil x0 fun x7 =>
  sOff x7 19 fun x8 =>
  sLd h x8 fun x9 =>
  sLen x9 fun x10 =>
  sNil x0 fun x12 =>
  sOff x12 18 fun x13 =>
  sLd h x13 fun x14 =>
  sLen x14 fun x15 =>
  sLoop (S := Value × Value) (fun nxt s h => ldisc_Disc_Ready_l1 R x14 x15 (fun x3' x16' h => nxt (x3', x16') h) s.1 s.2 h) (x10, (.int .i64 0)) h
set_option maxRecDepth 100000 in
theorem ldisc_Disc_Ready_runs {x0 : Value} {h : Heap} {R : Value → Heap → Prop} (H : ldisc_Disc_Ready_S x0 h R) : ldisc_Disc_Ready_c x0 h R := by
 unfold ldisc_Disc_Ready_S at H
 refine runs_of (b := ⟨#[x0, ud, ud, ud, ud, ud, ud, ud, ud, ud, ud, ud, ud, ud, ud, ud, ud, ud, ud, ud, ud, ud, ud, ud, ud, ud], []⟩) Try.call18 Try.func18 rfl (by kernel_rfl) (fun w0 HA => ?_)
 refine wp_seq (lwp_list ?_)
 refine ls_assign (x := (.int .i64 0)) (by kernel_rfl) (by kernel_rfl) ?_
 refine ls_nil (then_normal ?_)
 refine fr_eq (b := ⟨#[x0, ud, (.int .i64 0), ud, ud, ud, ud, ud, ud, ud, ud, ud, ud, ud, ud, ud, ud, ud, ud, ud, ud, ud, ud, ud, ud, ud], []⟩) (by kernel_rfl) ?_
 refine wp_seq (lwp_list ?_)
 refine ls_move (x := x0) (by kernel_rfl) (by kernel_rfl) ?_
 refine ls_p (d := some 7) (by kernel_rfl) (by kernel_rfl) (p_nil (by kernel_rfl) H) (fun x7 H => ?_)
 refine ls_p (d := some 8) (by kernel_rfl) (by kernel_rfl) (p_off Try.underlying72 rfl (fun w => ⟨_, Try.sizeOf30 w⟩) rfl (by kernel_rfl) H) (fun x8 H => ?_)
 refine ls_y (d := some 9) (by kernel_rfl) (by kernel_rfl) HA (y_ld Try.isAgg30 (by kernel_rfl) H) (fun x9 H => ?_)
 refine ls_p (d := some 10) (by kernel_rfl) (by kernel_rfl) (p_len Try.underlying30 (by kernel_rfl) H) (fun x10 H => ?_)
 refine ls_assign (x := x10) (by kernel_rfl) (by kernel_rfl) ?_
 refine ls_nil (then_normal ?_)
 refine fr_eq (b := ⟨#[x0, ud, (.int .i64 0), x10, ud, ud, x0, x7, x8, x9, x10, ud, ud, ud, ud, ud, ud, ud, ud, ud, ud, ud, ud, ud, ud, ud], []⟩) (by kernel_rfl) ?_
 refine wp_seq ?_
 refine wp_seq (lwp_list ?_)
 refine ls_move (x := x0) (by kernel_rfl) (by kernel_rfl) ?_
 refine ls_p (d := some 12) (by kernel_rfl) (by kernel_rfl) (p_nil (by kernel_rfl) H) (fun x12 H => ?_)
 refine ls_p (d := some 13) (by kernel_rfl) (by kernel_rfl) (p_off Try.underlying72 rfl (fun w => ⟨_, Try.sizeOf22 w⟩) rfl (by kernel_rfl) H) (fun x13 H => ?_)
 refine ls_y (d := some 14) (by kernel_rfl) (by kernel_rfl) HA (y_ld Try.isAgg22 (by kernel_rfl) H) (fun x14 H => ?_)
 refine ls_p (d := some 15) (by kernel_rfl) (by kernel_rfl) (p_len Try.underlying22 (by kernel_rfl) H) (fun x15 H => ?_)
 refine ls_move (x := (.int .i64 0)) (by kernel_rfl) (by kernel_rfl) ?_
 refine ls_nil (then_normal ?_)
 refine fr_eq (b := ⟨#[x0, ud, (.int .i64 0), x10, ud, ud, x0, x7, x8, x9, x10, x0, x12, x13, x14, x15, (.int .i64 0), ud, ud, ud, ud, ud, ud, ud, ud, ud], []⟩) (by kernel_rfl) ?_
 refine wp_block ?_
 obtain ⟨I, m, H0, HB⟩ := H
 refine wp_loop (fun a w => ∃ (D : Nat → Value) (x3 x16 : Value) (h : Heap), a = ⟨#[x0, ud, (.int .i64 0), x3, ud, (D 0), x0, x7, x8, x9, x10, x0, x12, x13, x14, x15, x16, (D 1), (D 2), (D 3), (D 4), (D 5), (D 6), (D 7), (D 8), ud], []⟩ ∧ At w0 w h ∧ I (x3, x16) h) (fun a w => m ((a.tmps.getD 3 ud), (a.tmps.getD 16 ud)) w.heap) ?_ ?_
 ·exact ⟨(fun i => (Ap [] 9).getD i ud), x10, (.int .i64 0), h, by kernel_rfl, HA, H0⟩
 ·rintro _ w ⟨D, x3, x16, h, rfl, HA, HI⟩
  have H : ldisc_Disc_Ready_l1 R x14 x15 (fun x3' x16' h' => I (x3', x16') h' ∧ m (x3', x16') h' < m (x3, x16) h) x3 x16 h := HB (x3, x16) h HI
  clear HB H0 HI
  unfold ldisc_Disc_Ready_l1 at H
  refine wp_seq (lwp_list ?_)
  refine ls_p (d := some 17) (by kernel_rfl) (by kernel_rfl) (p_sLt (by kernel_rfl) (by kernel_rfl) H) (fun x17 H => ?_)
  refine ls_nil (then_normal ?_)
  refine fr_eq (b := ⟨#[x0, ud, (.int .i64 0), x3, ud, (D 0), x0, x7, x8, x9, x10, x0, x12, x13, x14, x15, x16, x17, (D 2), (D 3), (D 4), (D 5), (D 6), (D 7), (D 8), ud], []⟩) (by kernel_rfl) ?_
  refine wp_seq ?_
  refine wp_if rfl H (fun H => ?_) (fun H => ?_)
  ·refine wp_skip ?_
   refine then_normal ?_
   refine fr_eq (b := ⟨#[x0, ud, (.int .i64 0), x3, ud, (D 0), x0, x7, x8, x9, x10, x0, x12, x13, x14, x15, x16, x17, (D 2), (D 3), (D 4), (D 5), (D 6), (D 7), (D 8), ud], []⟩) (by kernel_rfl) ?_
   refine wp_seq ?_
   refine wp_block ?_
   refine wp_seq (lwp_list ?_)
   refine ls_p (d := some 18) (by kernel_rfl) (by kernel_rfl) (p_ixs Try.underlying22 Try.sizeOf30 (by kernel_rfl) (by kernel_rfl) H) (fun x18 H => ?_)
   refine ls_y (d := some 19) (by kernel_rfl) (by kernel_rfl) HA (y_ld Try.isAgg30 (by kernel_rfl) H) (fun x19 H => ?_)
   refine ls_assign (x := x19) (by kernel_rfl) (by kernel_rfl) ?_
   refine ls_nil (then_normal ?_)
   refine fr_eq (b := ⟨#[x0, ud, (.int .i64 0), x3, ud, x19, x0, x7, x8, x9, x10, x0, x12, x13, x14, x15, x16, x17, x18, x19, (D 4), (D 5), (D 6), (D 7), (D 8), ud], []⟩) (by kernel_rfl) ?_
   refine lwp_list ?_
   refine ls_move (x := x3) (by kernel_rfl) (by kernel_rfl) ?_
   refine ls_move (x := x19) (by kernel_rfl) (by kernel_rfl) ?_
   refine ls_p (d := some 22) (by kernel_rfl) (by kernel_rfl) (p_len Try.underlying30 (by kernel_rfl) H) (fun x22 H => ?_)
   refine ls_p (d := some 23) (by kernel_rfl) (by kernel_rfl) (p_add (by kernel_rfl) (by kernel_rfl) H) (fun x23 H => ?_)
   refine ls_assign (x := x23) (by kernel_rfl) (by kernel_rfl) ?_
   refine ls_nil ?_
   refine block_normal ?_
   refine then_normal ?_
   refine fr_eq (b := ⟨#[x0, ud, (.int .i64 0), x23, ud, x19, x0, x7, x8, x9, x10, x0, x12, x13, x14, x15, x16, x17, x18, x19, x3, x19, x22, x23, (D 8), ud], []⟩) (by kernel_rfl) ?_
   refine lwp_list ?_
   refine ls_p (d := some 24) (by kernel_rfl) (by kernel_rfl) (p_add (by kernel_rfl) (by kernel_rfl) H) (fun x24 H => ?_)
   refine ls_move (x := x24) (by kernel_rfl) (by kernel_rfl) ?_
   refine ls_nil ?_
   exact ⟨⟨(fun i => ([x19, x17, x18, x19, x3, x19, x22, x23, x24]).getD i ud), x23, x24, h, by kernel_rfl, HA, H.1⟩, loop_lt HA.heap HA.heap (by kernel_rfl) (by kernel_rfl) H.2⟩
  ·refine wp_exit ?_
   refine then_exit ?_
   refine then_exit ?_
   refine block_exit ?_
   refine then_normal ?_
   refine fr_eq (b := ⟨#[x0, ud, (.int .i64 0), x3, ud, (D 0), x0, x7, x8, x9, x10, x0, x12, x13, x14, x15, x16, x17, (D 2), (D 3), (D 4), (D 5), (D 6), (D 7), (D 8), ud], []⟩) (by kernel_rfl) ?_
   refine wp_seq (lwp_list ?_)
   refine ls_move (x := x3) (by kernel_rfl) (by kernel_rfl) ?_
   refine ls_assign (x := x3) (by kernel_rfl) (by kernel_rfl) ?_
   refine ls_nil (then_normal ?_)
   refine fr_eq (b := ⟨#[x0, ud, x3, x3, ud, (D 0), x0, x7, x8, x9, x10, x0, x12, x13, x14, x15, x16, x17, (D 2), (D 3), (D 4), (D 5), (D 6), (D 7), (D 8), x3], []⟩) (by kernel_rfl) ?_
   refine wp_ret ?_
   exact end1 (Try.results18) (by kernel_rfl) (by kernel_rfl) HA H _ (.inr rfl)

end Go.Proofs.Ytlcklnbgknhhkaa

end

section
/- The shallow reading of one function, and that the function does it. Written by a program. -/
set_option linter.unusedVariables false
namespace Go.Proofs.Ytlcklnbgknhhkaa
open Go Go.HW

def ldisc_Disc_Line_S (x0 : Value) (h : Heap) (R : Value → Heap → Prop) : Prop :=
  sNil x0 fun x4 =>
  sOff x4 17 fun x5 =>
  sLd h x5 fun x6 =>
  slices_Clone_byte_byte_c x6 h fun x7 h => 
  R x7 h
set_option maxRecDepth 100000 in
theorem ldisc_Disc_Line_runs {x0 : Value} {h : Heap} {R : Value → Heap → Prop} (H : ldisc_Disc_Line_S x0 h R) : ldisc_Disc_Line_c x0 h R := by
 unfold ldisc_Disc_Line_S at H
 refine runs_of (b := ⟨#[x0, ud, ud, ud, ud, ud, ud, ud], []⟩) Try.call20 Try.func20 rfl (by kernel_rfl) (fun w0 HA => ?_)
 refine wp_seq (lwp_list ?_)
 refine ls_assign (x := (.slice none 0 0)) (by kernel_rfl) (by kernel_rfl) ?_
 refine ls_nil (then_normal ?_)
 refine fr_eq (b := ⟨#[x0, ud, (.slice none 0 0), ud, ud, ud, ud, ud], []⟩) (by kernel_rfl) ?_
 refine wp_seq (lwp_list ?_)
 refine ls_move (x := x0) (by kernel_rfl) (by kernel_rfl) ?_
 refine ls_p (d := some 4) (by kernel_rfl) (by kernel_rfl) (p_nil (by kernel_rfl) H) (fun x4 H => ?_)
 refine ls_p (d := some 5) (by kernel_rfl) (by kernel_rfl) (p_off Try.underlying72 rfl (fun w => ⟨_, Try.sizeOf30 w⟩) rfl (by kernel_rfl) H) (fun x5 H => ?_)
 refine ls_y (d := some 6) (by kernel_rfl) (by kernel_rfl) HA (y_ld Try.isAgg30 (by kernel_rfl) H) (fun x6 H => ?_)
 refine ls_d (d := some 7) (by kernel_rfl) (by kernel_rfl) HA (d_call (by kernel_rfl) (by kernel_rfl) H) (fun x7 h w H HA => ?_)
 refine ls_assign (x := x7) (by kernel_rfl) (by kernel_rfl) ?_
 refine ls_nil (then_normal ?_)
 refine fr_eq (b := ⟨#[x0, ud, x7, x0, x4, x5, x6, x7], []⟩) (by kernel_rfl) ?_
 refine wp_ret ?_
 exact end1 (Try.results20) (by kernel_rfl) (by kernel_rfl) HA H _ (.inr rfl)

end Go.Proofs.Ytlcklnbgknhhkaa

end

section
/- The shallow reading of one function, and that the function does it. Written by a program. -/
set_option linter.unusedVariables false
namespace Go.Proofs.Ytlcklnbgknhhkaa
open Go Go.HW

def ldisc_Disc_Stopped_S (x0 : Value) (h : Heap) (R : Value → Heap → Prop) : Prop :=
  sNil x0 fun x4 =>
  sOff x4 20 fun x5 =>
  sLd h x5 fun x6 =>
  R x6 h
set_option maxRecDepth 100000 in
theorem ldisc_Disc_Stopped_runs {x0 : Value} {h : Heap} {R : Value → Heap → Prop} (H : ldisc_Disc_Stopped_S x0 h R) : ldisc_Disc_Stopped_c x0 h R := by
 unfold ldisc_Disc_Stopped_S at H
 refine runs_of (b := ⟨#[x0, ud, ud, ud, ud, ud, ud], []⟩) Try.call31 Try.func31 rfl (by kernel_rfl) (fun w0 HA => ?_)
 refine wp_seq (lwp_list ?_)
 refine ls_assign (x := (.bool false)) (by kernel_rfl) (by kernel_rfl) ?_
 refine ls_nil (then_normal ?_)
 refine fr_eq (b := ⟨#[x0, ud, (.bool false), ud, ud, ud, ud], []⟩) (by kernel_rfl) ?_
 refine wp_seq (lwp_list ?_)
 refine ls_move (x := x0) (by kernel_rfl) (by kernel_rfl) ?_
 refine ls_p (d := some 4) (by kernel_rfl) (by kernel_rfl) (p_nil (by kernel_rfl) H) (fun x4 H => ?_)
 refine ls_p (d := some 5) (by kernel_rfl) (by kernel_rfl) (p_off Try.underlying72 rfl (fun w => ⟨_, Try.sizeOf4 w⟩) rfl (by kernel_rfl) H) (fun x5 H => ?_)
 refine ls_y (d := some 6) (by kernel_rfl) (by kernel_rfl) HA (y_ld Try.isAgg4 (by kernel_rfl) H) (fun x6 H => ?_)
 refine ls_assign (x := x6) (by kernel_rfl) (by kernel_rfl) ?_
 refine ls_nil (then_normal ?_)
 refine fr_eq (b := ⟨#[x0, ud, x6, x0, x4, x5, x6], []⟩) (by kernel_rfl) ?_
 refine wp_ret ?_
 exact end1 (Try.results31) (by kernel_rfl) (by kernel_rfl) HA H _ (.inr rfl)

end Go.Proofs.Ytlcklnbgknhhkaa

end

section
/- The shallow reading of one function, and that the function does it. Written by a program. -/
set_option linter.unusedVariables false
namespace Go.Proofs.Ytlcklnbgknhhkaa
open Go Go.HW

def slices_Clone_byte_byte_S (x0 : Value) (h : Heap) (R : Value → Heap → Prop) : Prop :=
  sEqlNilS x0 fun x4 =>
  sIf x4 (R (.slice none 0 0) h) (sSlit h #[] [] 5 0 fun x5 h => 
  sApp h x5 x0 #[.int .u8 0] 5 1 fun x7 h_1 => 
  R x7 h_1)
set_option maxRecDepth 100000 in
theorem slices_Clone_byte_byte_runs {x0 : Value} {h : Heap} {R : Value → Heap → Prop} (H : slices_Clone_byte_byte_S x0 h R) : slices_Clone_byte_byte_c x0 h R := by
 unfold slices_Clone_byte_byte_S at H
 refine runs_of (b := ⟨#[x0, ud, ud, ud, ud, ud, ud, ud], []⟩) Try.call42 Try.func42 rfl (by kernel_rfl) (fun w0 HA => ?_)
 refine wp_seq (lwp_list ?_)
 refine ls_assign (x := (.slice none 0 0)) (by kernel_rfl) (by kernel_rfl) ?_
 refine ls_nil (then_normal ?_)
 refine fr_eq (b := ⟨#[x0, ud, (.slice none 0 0), ud, ud, ud, ud, ud], []⟩) (by kernel_rfl) ?_
 refine wp_seq ?_
 refine wp_seq (lwp_list ?_)
 refine ls_move (x := x0) (by kernel_rfl) (by kernel_rfl) ?_
 refine ls_p (d := some 4) (by kernel_rfl) (by kernel_rfl) (p_eqlNilS Try.underlying30 (by kernel_rfl) (by kernel_rfl) H) (fun x4 H => ?_)
 refine ls_nil (then_normal ?_)
 refine fr_eq (b := ⟨#[x0, ud, (.slice none 0 0), x0, x4, ud, ud, ud], []⟩) (by kernel_rfl) ?_
 refine wp_if rfl H (fun H => ?_) (fun H => ?_)
 ·refine wp_seq (lwp_list ?_)
  refine ls_assign (x := (.slice none 0 0)) (by kernel_rfl) (by kernel_rfl) ?_
  refine ls_nil (then_normal ?_)
  refine fr_eq (b := ⟨#[x0, ud, (.slice none 0 0), x0, x4, ud, ud, ud], []⟩) (by kernel_rfl) ?_
  refine wp_ret ?_
  refine then_ret ?_
  exact end1 (Try.results42) (by kernel_rfl) (by kernel_rfl) HA H _ (.inr rfl)
 ·refine wp_skip ?_
  refine then_normal ?_
  refine fr_eq (b := ⟨#[x0, ud, (.slice none 0 0), x0, x4, ud, ud, ud], []⟩) (by kernel_rfl) ?_
  refine wp_seq (lwp_list ?_)
  refine ls_d (d := some 5) (by kernel_rfl) (by kernel_rfl) HA (d_slit (zc := #[]) Try.underlying30 Try.sizeOf5 (by decide) (.inl ⟨(by kernel_rfl), (by kernel_rfl)⟩) (by kernel_rfl) (by kernel_rfl) H) (fun x5 h w H HA => ?_)
  refine ls_move (x := x0) (by kernel_rfl) (by kernel_rfl) ?_
  refine ls_d (d := some 7) (by kernel_rfl) (by kernel_rfl) HA (d_app (z := #[.int .u8 0]) Try.underlying30 Try.underlying30 (.inl ⟨_, rfl⟩) Try.typeInfo5 (by kernel_rfl) Try.sizeOf5 Try.zeroValue5 (by kernel_rfl) (by kernel_rfl) (by kernel_rfl) H) (fun x7 h_1 w_1 H HA_1 => ?_)
  refine ls_assign (x := x7) (by kernel_rfl) (by kernel_rfl) ?_
  refine ls_nil (then_normal ?_)
  refine fr_eq (b := ⟨#[x0, ud, x7, x0, x4, x5, x0, x7], []⟩) (by kernel_rfl) ?_
  refine wp_ret ?_
  exact end1 (Try.results42) (by kernel_rfl) (by kernel_rfl) HA_1 H _ (.inr rfl)

end Go.Proofs.Ytlcklnbgknhhkaa

end
