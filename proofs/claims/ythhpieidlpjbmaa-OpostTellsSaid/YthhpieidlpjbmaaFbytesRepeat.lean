/- The shallow reading of one function, and that the function does it. Written by a program. -/
import Derived.Test.YthhpieidlpjbmaaFnC
import Derived.Test.YthhpieidlpjbmaaHwZero
set_option linter.unusedVariables false
namespace Go.Proofs.Ythhpieidlpjbmaa
open Go Go.HW

def bytes_Repeat_l4 (R : Value → Heap → Prop) (x35 x8 x57 : Value) (next : Value → Heap → Prop) (x10 : Value) (h_8 : Heap) : Prop :=
  sLt x10 x35 fun x63 =>
  sIf x63 (sMin x10 x8 fun x66 =>
  sSl x57 (some x10) none 1 fun x70 =>
  sSl x57 none (some x66) 1 fun x73 =>
  sCopy h_8 x70 x73 1 fun x74 h_9 => 
  sAdd .i64 x10 x74 fun x75 =>
  next x75 h_9) (R x57 h_8)
def bytes_Repeat_j3 (R : Value → Heap → Prop) (x0 x35 x8 : Value) (h_5 : Heap) : Prop :=
  sMkNZ h_5 x35 5 fun x54 h_6 => 
  sSl3 x54 none x35 x35 1 fun x57 =>
  sCopy h_6 x57 x0 1 fun x60 h_7 => 
  sLoop (S := Value) (fun nxt s h => bytes_Repeat_l4 R x35 x8 x57 (fun x10' h => nxt x10' h) s h) x60 h_7
def bytes_Repeat_j2 (R : Value → Heap → Prop) (x0 x26 : Value) (h_3 : Heap) : Prop :=
  sConv .i64 x26 fun x35 =>
  sLen x0 fun x37 =>
  sEq x37 (.int .i64 0) fun x38 =>
  sIf x38 (sSlit h_3 #[] [] 5 0 fun x39 h_4 => 
  R x39 h_4) (sGt x35 (.int .i64 8192) fun x42 =>
  sIf x42 (sLen x0 fun x44 =>
  sQuo .i64 (.int .i64 8192) x44 fun x45 =>
  sLen x0 fun x47 =>
  sMul .i64 x45 x47 fun x48 =>
  sEq x48 (.int .i64 0) fun x50 =>
  sIf x50 (sLen x0 fun x52 =>
  bytes_Repeat_j3 R x0 x35 x52 h_3) (bytes_Repeat_j3 R x0 x35 x48 h_3)) (bytes_Repeat_j3 R x0 x35 x35 h_3))
def bytes_Repeat_j1 (R : Value → Heap → Prop) (x0 x1 : Value) (h_1 : Heap) : Prop :=
  sLen x0 fun x20 =>
  sConv .u64 x20 fun x21 =>
  sConv .u64 x1 fun x23 =>
  math_bits_Mul_c x21 x23 h_1 fun x24 h_2 => 
  sTup x24 0 fun x25 =>
  sTup x24 1 fun x26 =>
  sGt x25 (.int .u64 0) fun x28 =>
  sOr x28 (fun k =>
  sGt x26 (.int .u64 9223372036854775807) fun x31 =>
  k x31) fun x32 =>
  sIf x32 (False) (bytes_Repeat_j2 R x0 x26 h_2)
def bytes_Repeat_S (x0 x1 : Value) (h : Heap) (R : Value → Heap → Prop) : Prop :=
  sEq x1 (.int .i64 0) fun x13 =>
  sIf x13 (sSlit h #[] [] 5 0 fun x14 h => 
  R x14 h) (sLt x1 (.int .i64 0) fun x16 =>
  sIf x16 (False) (bytes_Repeat_j1 R x0 x1 h))
set_option maxRecDepth 100000 in
theorem bytes_Repeat_runs {x0 x1 : Value} {h : Heap} {R : Value → Heap → Prop} (H : bytes_Repeat_S x0 x1 h R) : bytes_Repeat_c x0 x1 h R := by
  unfold bytes_Repeat_S at H
  refine runs_of (b := ⟨([x0, x1, undef, undef, undef, undef, undef, undef, undef, undef, undef, undef, undef, undef, undef, undef, undef, undef, undef, undef, undef, undef, undef, undef, undef, undef, undef, undef, undef, undef, undef, undef, undef, undef, undef, undef, undef, undef, undef, undef, undef, undef, undef, undef, undef, undef, undef, undef, undef, undef] ++ [undef, undef, undef, undef, undef, undef, undef, undef, undef, undef, undef, undef, undef, undef, undef, undef, undef, undef, undef, undef, undef, undef, undef, undef, undef, undef, undef]).toArray, []⟩) Try.call57 Try.func57 rfl (by kernel_rfl) (fun w0 HA => ?_)
  refine wp_seq ?_
  refine lwp_list ?_
  refine ls_assign (x := (.slice none 0 0)) (by kernel_rfl) (by kernel_rfl) ?_
  refine ls_nil ?_
  refine then_normal ?_
  refine fr_eq (b := ⟨([x0, x1, undef, undef, (.slice none 0 0), undef, undef, undef, undef, undef, undef, undef, undef, undef, undef, undef, undef, undef, undef, undef, undef, undef, undef, undef, undef, undef, undef, undef, undef, undef, undef, undef, undef, undef, undef, undef, undef, undef, undef, undef, undef, undef, undef, undef, undef, undef, undef, undef, undef, undef] ++ [undef, undef, undef, undef, undef, undef, undef, undef, undef, undef, undef, undef, undef, undef, undef, undef, undef, undef, undef, undef, undef, undef, undef, undef, undef, undef, undef]).toArray, []⟩) (by kernel_rfl) ?_
  refine wp_seq ?_
  refine wp_seq ?_
  refine lwp_list ?_
  refine ls_move (x := x1) (by kernel_rfl) (by kernel_rfl) ?_
  refine ls_p (d := some 13) (by kernel_rfl) (by kernel_rfl) (p_sEq (by kernel_rfl) (by kernel_rfl) H) (fun x13 H => ?_)
  refine ls_nil ?_
  refine then_normal ?_
  refine fr_eq (b := ⟨([x0, x1, undef, undef, (.slice none 0 0), undef, undef, undef, undef, undef, undef, undef, x1, x13, undef, undef, undef, undef, undef, undef, undef, undef, undef, undef, undef, undef, undef, undef, undef, undef, undef, undef, undef, undef, undef, undef, undef, undef, undef, undef, undef, undef, undef, undef, undef, undef, undef, undef, undef, undef] ++ [undef, undef, undef, undef, undef, undef, undef, undef, undef, undef, undef, undef, undef, undef, undef, undef, undef, undef, undef, undef, undef, undef, undef, undef, undef, undef, undef]).toArray, []⟩) (by kernel_rfl) ?_
  refine wp_if rfl H (fun H => ?_) (fun H => ?_)
  · refine wp_seq ?_
    refine lwp_list ?_
    refine ls_d (d := some 14) (by kernel_rfl) (by kernel_rfl) HA (d_slit (zc := #[]) Try.underlying56 Try.sizeOf5 (by decide) (.inl ⟨(by kernel_rfl), (by kernel_rfl)⟩) (by kernel_rfl) (by kernel_rfl) H) (fun x14 h w H HA => ?_)
    refine ls_assign (x := x14) (by kernel_rfl) (by kernel_rfl) ?_
    refine ls_nil ?_
    refine then_normal ?_
    refine fr_eq (b := ⟨([x0, x1, undef, undef, x14, undef, undef, undef, undef, undef, undef, undef, x1, x13, x14, undef, undef, undef, undef, undef, undef, undef, undef, undef, undef, undef, undef, undef, undef, undef, undef, undef, undef, undef, undef, undef, undef, undef, undef, undef, undef, undef, undef, undef, undef, undef, undef, undef, undef, undef] ++ [undef, undef, undef, undef, undef, undef, undef, undef, undef, undef, undef, undef, undef, undef, undef, undef, undef, undef, undef, undef, undef, undef, undef, undef, undef, undef, undef]).toArray, []⟩) (by kernel_rfl) ?_
    refine wp_ret ?_
    refine then_ret ?_
    exact end1 (Try.results57) (by kernel_rfl) (by kernel_rfl) HA H _ (.inr rfl)
  · refine wp_skip ?_
    refine then_normal ?_
    refine fr_eq (b := ⟨([x0, x1, undef, undef, (.slice none 0 0), undef, undef, undef, undef, undef, undef, undef, x1, x13, undef, undef, undef, undef, undef, undef, undef, undef, undef, undef, undef, undef, undef, undef, undef, undef, undef, undef, undef, undef, undef, undef, undef, undef, undef, undef, undef, undef, undef, undef, undef, undef, undef, undef, undef, undef] ++ [undef, undef, undef, undef, undef, undef, undef, undef, undef, undef, undef, undef, undef, undef, undef, undef, undef, undef, undef, undef, undef, undef, undef, undef, undef, undef, undef]).toArray, []⟩) (by kernel_rfl) ?_
    refine wp_seq ?_
    refine wp_seq ?_
    refine lwp_list ?_
    refine ls_move (x := x1) (by kernel_rfl) (by kernel_rfl) ?_
    refine ls_p (d := some 16) (by kernel_rfl) (by kernel_rfl) (p_sLt (by kernel_rfl) (by kernel_rfl) H) (fun x16 H => ?_)
    refine ls_nil ?_
    refine then_normal ?_
    refine fr_eq (b := ⟨([x0, x1, undef, undef, (.slice none 0 0), undef, undef, undef, undef, undef, undef, undef, x1, x13, undef, x1, x16, undef, undef, undef, undef, undef, undef, undef, undef, undef, undef, undef, undef, undef, undef, undef, undef, undef, undef, undef, undef, undef, undef, undef, undef, undef, undef, undef, undef, undef, undef, undef, undef, undef] ++ [undef, undef, undef, undef, undef, undef, undef, undef, undef, undef, undef, undef, undef, undef, undef, undef, undef, undef, undef, undef, undef, undef, undef, undef, undef, undef, undef]).toArray, []⟩) (by kernel_rfl) ?_
    refine wp_join (fun a w => ∃ (D : Nat → Value) (h_1 : Heap), a = ⟨([x0, x1, undef, undef, (.slice none 0 0), undef, undef, undef, undef, undef, undef, undef, x1, x13, undef, x1, x16, (D 0), undef, undef, undef, undef, undef, undef, undef, undef, undef, undef, undef, undef, undef, undef, undef, undef, undef, undef, undef, undef, undef, undef, undef, undef, undef, undef, undef, undef, undef, undef, undef, undef] ++ [undef, undef, undef, undef, undef, undef, undef, undef, undef, undef, undef, undef, undef, undef, undef, undef, undef, undef, undef, undef, undef, undef, undef, undef, undef, undef, undef]).toArray, []⟩ ∧ At w0 w h_1 ∧ bytes_Repeat_j1 R x0 x1 h_1) ?_ ?_
    · refine wp_if rfl H (fun H => ?_) (fun H => ?_)
      · exact H.elim
      · refine wp_skip ?_
        exact ⟨(fun i => ([undef]).getD i undef), h, by kernel_rfl, HA, H⟩
    · rintro _ w_1 ⟨D, h_1, rfl, HA_1, H⟩
      unfold bytes_Repeat_j1 at H
      refine then_normal ?_
      refine fr_eq (b := ⟨([x0, x1, undef, undef, (.slice none 0 0), undef, undef, undef, undef, undef, undef, undef, x1, x13, undef, x1, x16, (D 0), undef, undef, undef, undef, undef, undef, undef, undef, undef, undef, undef, undef, undef, undef, undef, undef, undef, undef, undef, undef, undef, undef, undef, undef, undef, undef, undef, undef, undef, undef, undef, undef] ++ [undef, undef, undef, undef, undef, undef, undef, undef, undef, undef, undef, undef, undef, undef, undef, undef, undef, undef, undef, undef, undef, undef, undef, undef, undef, undef, undef]).toArray, []⟩) (by kernel_rfl) ?_
      refine wp_seq ?_
      refine lwp_list ?_
      refine ls_move (x := x0) (by kernel_rfl) (by kernel_rfl) ?_
      refine ls_p (d := some 20) (by kernel_rfl) (by kernel_rfl) (p_len Try.underlying56 (by kernel_rfl) H) (fun x20 H => ?_)
      refine ls_p (d := some 21) (by kernel_rfl) (by kernel_rfl) (p_conv Try.underlying3 Try.underlying86 (by kernel_rfl) H) (fun x21 H => ?_)
      refine ls_move (x := x1) (by kernel_rfl) (by kernel_rfl) ?_
      refine ls_p (d := some 23) (by kernel_rfl) (by kernel_rfl) (p_conv Try.underlying3 Try.underlying86 (by kernel_rfl) H) (fun x23 H => ?_)
      refine ls_d (d := some 24) (by kernel_rfl) (by kernel_rfl) HA_1 (d_call (by kernel_rfl) (by kernel_rfl) H) (fun x24 h_2 w_2 H HA_2 => ?_)
      refine ls_fr (b := ⟨([x0, x1, undef, undef, (.slice none 0 0), undef, undef, undef, undef, undef, undef, undef, x1, x13, undef, x1, x16, (D 0), undef, x0, x20, x21, x1, x23, x24, undef, undef, undef, undef, undef, undef, undef, undef, undef, undef, undef, undef, undef, undef, undef, undef, undef, undef, undef, undef, undef, undef, undef, undef, undef] ++ [undef, undef, undef, undef, undef, undef, undef, undef, undef, undef, undef, undef, undef, undef, undef, undef, undef, undef, undef, undef, undef, undef, undef, undef, undef, undef, undef]).toArray, []⟩) (by kernel_rfl) ?_
      refine ls_move (x := x24) (by kernel_rfl) (by kernel_rfl) ?_
      refine ls_p (d := some 25) (by kernel_rfl) (by kernel_rfl) (p_tup (by kernel_rfl) H) (fun x25 H => ?_)
      refine ls_p (d := some 26) (by kernel_rfl) (by kernel_rfl) (p_tup (by kernel_rfl) H) (fun x26 H => ?_)
      refine ls_assign (x := x25) (by kernel_rfl) (by kernel_rfl) ?_
      refine ls_assign (x := x26) (by kernel_rfl) (by kernel_rfl) ?_
      refine ls_nil ?_
      refine then_normal ?_
      refine fr_eq (b := ⟨([x0, x1, undef, undef, (.slice none 0 0), x25, x26, undef, undef, undef, undef, undef, x1, x13, undef, x1, x16, (D 0), x24, x0, x20, x21, x1, x23, x24, x25, x26, undef, undef, undef, undef, undef, undef, undef, undef, undef, undef, undef, undef, undef, undef, undef, undef, undef, undef, undef, undef, undef, undef, undef] ++ [undef, undef, undef, undef, undef, undef, undef, undef, undef, undef, undef, undef, undef, undef, undef, undef, undef, undef, undef, undef, undef, undef, undef, undef, undef, undef, undef]).toArray, []⟩) (by kernel_rfl) ?_
      refine wp_seq ?_
      refine wp_seq ?_
      refine lwp_list ?_
      refine ls_move (x := x25) (by kernel_rfl) (by kernel_rfl) ?_
      refine ls_p (d := some 28) (by kernel_rfl) (by kernel_rfl) (p_sGt (by kernel_rfl) (by kernel_rfl) H) (fun x28 H => ?_)
      refine ls_move (x := x28) (by kernel_rfl) (by kernel_rfl) ?_
      refine ls_or [(), (), ()] (fun K a w => ∃ (D_1 : Nat → Value) (x32 : Value), a = ⟨([x0, x1, undef, undef, (.slice none 0 0), x25, x26, undef, undef, undef, undef, undef, x1, x13, undef, x1, x16, (D 0), x24, x0, x20, x21, x1, x23, x24, x25, x26, x25, x28, x28, (D_1 0), (D_1 1), x32, undef, undef, undef, undef, undef, undef, undef, undef, undef, undef, undef, undef, undef, undef, undef, undef, undef] ++ [undef, undef, undef, undef, undef, undef, undef, undef, undef, undef, undef, undef, undef, undef, undef, undef, undef, undef, undef, undef, undef, undef, undef, undef, undef, undef, undef]).toArray, []⟩ ∧ At w0 w h_2 ∧ K x32) H (fun hb H => ?_) (fun hb H => ?_) ?_
      · refine ls_move (x := x26) (by rw [hb]; kernel_rfl) (by kernel_rfl) ?_
        refine ls_p (d := some 31) (by kernel_rfl) (by rw [hb]; kernel_rfl) (p_sGt (by kernel_rfl) (by kernel_rfl) H) (fun x31 H => ?_)
        refine ls_pick_f (y := x31) (by kernel_rfl) (by rw [hb]; kernel_rfl) (by kernel_rfl) ?_
        refine ls_nil ?_
        refine then_normal ?_
        exact ⟨(fun i => ([x26, x31]).getD i undef), x31, by kernel_rfl, HA_2, H⟩
      · refine ls_skip (d := some 30) (by kernel_rfl) (by rw [hb]; kernel_rfl) ?_
        refine ls_skip (d := some 31) (by kernel_rfl) (by rw [hb]; kernel_rfl) ?_
        refine ls_pick_t (x := (.bool true)) (by kernel_rfl) (by rw [hb]; kernel_rfl) (by kernel_rfl) ?_
        refine ls_nil ?_
        refine then_normal ?_
        exact ⟨(fun i => ([undef, undef]).getD i undef), (.bool true), by kernel_rfl, HA_2, H⟩
      · rintro _ w_3 ⟨D_1, x32, rfl, HA_3, H⟩
        refine ls_nil ?_
        refine then_normal ?_
        refine fr_eq (b := ⟨([x0, x1, undef, undef, (.slice none 0 0), x25, x26, undef, undef, undef, undef, undef, x1, x13, undef, x1, x16, (D 0), x24, x0, x20, x21, x1, x23, x24, x25, x26, x25, x28, x28, (D_1 0), (D_1 1), x32, undef, undef, undef, undef, undef, undef, undef, undef, undef, undef, undef, undef, undef, undef, undef, undef, undef] ++ [undef, undef, undef, undef, undef, undef, undef, undef, undef, undef, undef, undef, undef, undef, undef, undef, undef, undef, undef, undef, undef, undef, undef, undef, undef, undef, undef]).toArray, []⟩) (by kernel_rfl) ?_
        refine wp_join (fun a w => ∃ (D_2 : Nat → Value) (h_3 : Heap), a = ⟨([x0, x1, undef, undef, (.slice none 0 0), x25, x26, undef, undef, undef, undef, undef, x1, x13, undef, x1, x16, (D 0), x24, x0, x20, x21, x1, x23, x24, x25, x26, x25, x28, x28, (D_1 0), (D_1 1), x32, (D_2 0), undef, undef, undef, undef, undef, undef, undef, undef, undef, undef, undef, undef, undef, undef, undef, undef] ++ [undef, undef, undef, undef, undef, undef, undef, undef, undef, undef, undef, undef, undef, undef, undef, undef, undef, undef, undef, undef, undef, undef, undef, undef, undef, undef, undef]).toArray, []⟩ ∧ At w0 w h_3 ∧ bytes_Repeat_j2 R x0 x26 h_3) ?_ ?_
        · refine wp_if rfl H (fun H => ?_) (fun H => ?_)
          · exact H.elim
          · refine wp_skip ?_
            exact ⟨(fun i => ([undef]).getD i undef), h_2, by kernel_rfl, HA_3, H⟩
        · rintro _ w_4 ⟨D_2, h_3, rfl, HA_4, H⟩
          unfold bytes_Repeat_j2 at H
          refine then_normal ?_
          refine fr_eq (b := ⟨([x0, x1, undef, undef, (.slice none 0 0), x25, x26, undef, undef, undef, undef, undef, x1, x13, undef, x1, x16, (D 0), x24, x0, x20, x21, x1, x23, x24, x25, x26, x25, x28, x28, (D_1 0), (D_1 1), x32, (D_2 0), undef, undef, undef, undef, undef, undef, undef, undef, undef, undef, undef, undef, undef, undef, undef, undef] ++ [undef, undef, undef, undef, undef, undef, undef, undef, undef, undef, undef, undef, undef, undef, undef, undef, undef, undef, undef, undef, undef, undef, undef, undef, undef, undef, undef]).toArray, []⟩) (by kernel_rfl) ?_
          refine wp_seq ?_
          refine lwp_list ?_
          refine ls_move (x := x26) (by kernel_rfl) (by kernel_rfl) ?_
          refine ls_p (d := some 35) (by kernel_rfl) (by kernel_rfl) (p_conv Try.underlying86 Try.underlying3 (by kernel_rfl) H) (fun x35 H => ?_)
          refine ls_assign (x := x35) (by kernel_rfl) (by kernel_rfl) ?_
          refine ls_nil ?_
          refine then_normal ?_
          refine fr_eq (b := ⟨([x0, x1, undef, undef, (.slice none 0 0), x25, x26, x35, undef, undef, undef, undef, x1, x13, undef, x1, x16, (D 0), x24, x0, x20, x21, x1, x23, x24, x25, x26, x25, x28, x28, (D_1 0), (D_1 1), x32, (D_2 0), x26, x35, undef, undef, undef, undef, undef, undef, undef, undef, undef, undef, undef, undef, undef, undef] ++ [undef, undef, undef, undef, undef, undef, undef, undef, undef, undef, undef, undef, undef, undef, undef, undef, undef, undef, undef, undef, undef, undef, undef, undef, undef, undef, undef]).toArray, []⟩) (by kernel_rfl) ?_
          refine wp_seq ?_
          refine wp_seq ?_
          refine lwp_list ?_
          refine ls_move (x := x0) (by kernel_rfl) (by kernel_rfl) ?_
          refine ls_p (d := some 37) (by kernel_rfl) (by kernel_rfl) (p_len Try.underlying56 (by kernel_rfl) H) (fun x37 H => ?_)
          refine ls_p (d := some 38) (by kernel_rfl) (by kernel_rfl) (p_sEq (by kernel_rfl) (by kernel_rfl) H) (fun x38 H => ?_)
          refine ls_nil ?_
          refine then_normal ?_
          refine fr_eq (b := ⟨([x0, x1, undef, undef, (.slice none 0 0), x25, x26, x35, undef, undef, undef, undef, x1, x13, undef, x1, x16, (D 0), x24, x0, x20, x21, x1, x23, x24, x25, x26, x25, x28, x28, (D_1 0), (D_1 1), x32, (D_2 0), x26, x35, x0, x37, x38, undef, undef, undef, undef, undef, undef, undef, undef, undef, undef, undef] ++ [undef, undef, undef, undef, undef, undef, undef, undef, undef, undef, undef, undef, undef, undef, undef, undef, undef, undef, undef, undef, undef, undef, undef, undef, undef, undef, undef]).toArray, []⟩) (by kernel_rfl) ?_
          refine wp_if rfl H (fun H => ?_) (fun H => ?_)
          · refine wp_seq ?_
            refine lwp_list ?_
            refine ls_d (d := some 39) (by kernel_rfl) (by kernel_rfl) HA_4 (d_slit (zc := #[]) Try.underlying56 Try.sizeOf5 (by decide) (.inl ⟨(by kernel_rfl), (by kernel_rfl)⟩) (by kernel_rfl) (by kernel_rfl) H) (fun x39 h_4 w_5 H HA_5 => ?_)
            refine ls_assign (x := x39) (by kernel_rfl) (by kernel_rfl) ?_
            refine ls_nil ?_
            refine then_normal ?_
            refine fr_eq (b := ⟨([x0, x1, undef, undef, x39, x25, x26, x35, undef, undef, undef, undef, x1, x13, undef, x1, x16, (D 0), x24, x0, x20, x21, x1, x23, x24, x25, x26, x25, x28, x28, (D_1 0), (D_1 1), x32, (D_2 0), x26, x35, x0, x37, x38, x39, undef, undef, undef, undef, undef, undef, undef, undef, undef, undef] ++ [undef, undef, undef, undef, undef, undef, undef, undef, undef, undef, undef, undef, undef, undef, undef, undef, undef, undef, undef, undef, undef, undef, undef, undef, undef, undef, undef]).toArray, []⟩) (by kernel_rfl) ?_
            refine wp_ret ?_
            refine then_ret ?_
            exact end1 (Try.results57) (by kernel_rfl) (by kernel_rfl) HA_5 H _ (.inr rfl)
          · refine wp_skip ?_
            refine then_normal ?_
            refine fr_eq (b := ⟨([x0, x1, undef, undef, (.slice none 0 0), x25, x26, x35, undef, undef, undef, undef, x1, x13, undef, x1, x16, (D 0), x24, x0, x20, x21, x1, x23, x24, x25, x26, x25, x28, x28, (D_1 0), (D_1 1), x32, (D_2 0), x26, x35, x0, x37, x38, undef, undef, undef, undef, undef, undef, undef, undef, undef, undef, undef] ++ [undef, undef, undef, undef, undef, undef, undef, undef, undef, undef, undef, undef, undef, undef, undef, undef, undef, undef, undef, undef, undef, undef, undef, undef, undef, undef, undef]).toArray, []⟩) (by kernel_rfl) ?_
            refine wp_seq ?_
            refine lwp_list ?_
            refine ls_move (x := x35) (by kernel_rfl) (by kernel_rfl) ?_
            refine ls_assign (x := x35) (by kernel_rfl) (by kernel_rfl) ?_
            refine ls_nil ?_
            refine then_normal ?_
            refine fr_eq (b := ⟨([x0, x1, undef, undef, (.slice none 0 0), x25, x26, x35, x35, undef, undef, undef, x1, x13, undef, x1, x16, (D 0), x24, x0, x20, x21, x1, x23, x24, x25, x26, x25, x28, x28, (D_1 0), (D_1 1), x32, (D_2 0), x26, x35, x0, x37, x38, undef, x35, undef, undef, undef, undef, undef, undef, undef, undef, undef] ++ [undef, undef, undef, undef, undef, undef, undef, undef, undef, undef, undef, undef, undef, undef, undef, undef, undef, undef, undef, undef, undef, undef, undef, undef, undef, undef, undef]).toArray, []⟩) (by kernel_rfl) ?_
            refine wp_seq ?_
            refine wp_seq ?_
            refine lwp_list ?_
            refine ls_move (x := x35) (by kernel_rfl) (by kernel_rfl) ?_
            refine ls_p (d := some 42) (by kernel_rfl) (by kernel_rfl) (p_sGt (by kernel_rfl) (by kernel_rfl) H) (fun x42 H => ?_)
            refine ls_nil ?_
            refine then_normal ?_
            refine fr_eq (b := ⟨([x0, x1, undef, undef, (.slice none 0 0), x25, x26, x35, x35, undef, undef, undef, x1, x13, undef, x1, x16, (D 0), x24, x0, x20, x21, x1, x23, x24, x25, x26, x25, x28, x28, (D_1 0), (D_1 1), x32, (D_2 0), x26, x35, x0, x37, x38, undef, x35, x35, x42, undef, undef, undef, undef, undef, undef, undef] ++ [undef, undef, undef, undef, undef, undef, undef, undef, undef, undef, undef, undef, undef, undef, undef, undef, undef, undef, undef, undef, undef, undef, undef, undef, undef, undef, undef]).toArray, []⟩) (by kernel_rfl) ?_
            refine wp_join (fun a w => ∃ (D_3 : Nat → Value) (x8 : Value) (h_5 : Heap), a = ⟨([x0, x1, undef, undef, (.slice none 0 0), x25, x26, x35, x8, undef, undef, undef, x1, x13, undef, x1, x16, (D 0), x24, x0, x20, x21, x1, x23, x24, x25, x26, x25, x28, x28, (D_1 0), (D_1 1), x32, (D_2 0), x26, x35, x0, x37, x38, undef, x35, x35, x42, (D_3 0), (D_3 1), (D_3 2), (D_3 3), (D_3 4), (D_3 5), (D_3 6)] ++ [(D_3 7), (D_3 8), (D_3 9), undef, undef, undef, undef, undef, undef, undef, undef, undef, undef, undef, undef, undef, undef, undef, undef, undef, undef, undef, undef, undef, undef, undef, undef]).toArray, []⟩ ∧ At w0 w h_5 ∧ bytes_Repeat_j3 R x0 x35 x8 h_5) ?_ ?_
            · refine wp_if rfl H (fun H => ?_) (fun H => ?_)
              · refine wp_seq ?_
                refine lwp_list ?_
                refine ls_move (x := x0) (by kernel_rfl) (by kernel_rfl) ?_
                refine ls_p (d := some 44) (by kernel_rfl) (by kernel_rfl) (p_len Try.underlying56 (by kernel_rfl) H) (fun x44 H => ?_)
                refine ls_p (d := some 45) (by kernel_rfl) (by kernel_rfl) (p_quo (by kernel_rfl) (by kernel_rfl) H) (fun x45 H => ?_)
                refine ls_move (x := x0) (by kernel_rfl) (by kernel_rfl) ?_
                refine ls_p (d := some 47) (by kernel_rfl) (by kernel_rfl) (p_len Try.underlying56 (by kernel_rfl) H) (fun x47 H => ?_)
                refine ls_p (d := some 48) (by kernel_rfl) (by kernel_rfl) (p_mul (by kernel_rfl) (by kernel_rfl) H) (fun x48 H => ?_)
                refine ls_fr (b := ⟨([x0, x1, undef, undef, (.slice none 0 0), x25, x26, x35, x35, undef, undef, undef, x1, x13, undef, x1, x16, (D 0), x24, x0, x20, x21, x1, x23, x24, x25, x26, x25, x28, x28, (D_1 0), (D_1 1), x32, (D_2 0), x26, x35, x0, x37, x38, undef, x35, x35, x42, x0, x44, x45, x0, x47, x48, undef] ++ [undef, undef, undef, undef, undef, undef, undef, undef, undef, undef, undef, undef, undef, undef, undef, undef, undef, undef, undef, undef, undef, undef, undef, undef, undef, undef, undef]).toArray, []⟩) (by kernel_rfl) ?_
                refine ls_assign (x := x48) (by kernel_rfl) (by kernel_rfl) ?_
                refine ls_nil ?_
                refine then_normal ?_
                refine fr_eq (b := ⟨([x0, x1, undef, undef, (.slice none 0 0), x25, x26, x35, x48, undef, undef, undef, x1, x13, undef, x1, x16, (D 0), x24, x0, x20, x21, x1, x23, x24, x25, x26, x25, x28, x28, (D_1 0), (D_1 1), x32, (D_2 0), x26, x35, x0, x37, x38, undef, x35, x35, x42, x0, x44, x45, x0, x47, x48, undef] ++ [undef, undef, undef, undef, undef, undef, undef, undef, undef, undef, undef, undef, undef, undef, undef, undef, undef, undef, undef, undef, undef, undef, undef, undef, undef, undef, undef]).toArray, []⟩) (by kernel_rfl) ?_
                refine wp_seq ?_
                refine lwp_list ?_
                refine ls_move (x := x48) (by kernel_rfl) (by kernel_rfl) ?_
                refine ls_p (d := some 50) (by kernel_rfl) (by kernel_rfl) (p_sEq (by kernel_rfl) (by kernel_rfl) H) (fun x50 H => ?_)
                refine ls_nil ?_
                refine then_normal ?_
                refine fr_eq (b := ⟨([x0, x1, undef, undef, (.slice none 0 0), x25, x26, x35, x48, undef, undef, undef, x1, x13, undef, x1, x16, (D 0), x24, x0, x20, x21, x1, x23, x24, x25, x26, x25, x28, x28, (D_1 0), (D_1 1), x32, (D_2 0), x26, x35, x0, x37, x38, undef, x35, x35, x42, x0, x44, x45, x0, x47, x48, x48] ++ [x50, undef, undef, undef, undef, undef, undef, undef, undef, undef, undef, undef, undef, undef, undef, undef, undef, undef, undef, undef, undef, undef, undef, undef, undef, undef, undef]).toArray, []⟩) (by kernel_rfl) ?_
                refine wp_if rfl H (fun H => ?_) (fun H => ?_)
                · refine lwp_list ?_
                  refine ls_move (x := x0) (by kernel_rfl) (by kernel_rfl) ?_
                  refine ls_p (d := some 52) (by kernel_rfl) (by kernel_rfl) (p_len Try.underlying56 (by kernel_rfl) H) (fun x52 H => ?_)
                  refine ls_assign (x := x52) (by kernel_rfl) (by kernel_rfl) ?_
                  refine ls_nil ?_
                  exact ⟨(fun i => ([x0, x44, x45, x0, x47, x48, x48, x50, x0, x52]).getD i undef), x52, h_3, by kernel_rfl, HA_4, H⟩
                · refine wp_skip ?_
                  exact ⟨(fun i => ([x0, x44, x45, x0, x47, x48, x48, x50, undef, undef]).getD i undef), x48, h_3, by kernel_rfl, HA_4, H⟩
              · refine wp_skip ?_
                exact ⟨(fun i => ([undef, undef, undef, undef, undef, undef, undef, undef, undef, undef]).getD i undef), x35, h_3, by kernel_rfl, HA_4, H⟩
            · rintro _ w_6 ⟨D_3, x8, h_5, rfl, HA_6, H⟩
              unfold bytes_Repeat_j3 at H
              refine then_normal ?_
              refine fr_eq (b := ⟨([x0, x1, undef, undef, (.slice none 0 0), x25, x26, x35, x8, undef, undef, undef, x1, x13, undef, x1, x16, (D 0), x24, x0, x20, x21, x1, x23, x24, x25, x26, x25, x28, x28, (D_1 0), (D_1 1), x32, (D_2 0), x26, x35, x0, x37, x38, undef, x35, x35, x42, (D_3 0), (D_3 1), (D_3 2), (D_3 3), (D_3 4), (D_3 5), (D_3 6)] ++ [(D_3 7), (D_3 8), (D_3 9), undef, undef, undef, undef, undef, undef, undef, undef, undef, undef, undef, undef, undef, undef, undef, undef, undef, undef, undef, undef, undef, undef, undef, undef]).toArray, []⟩) (by kernel_rfl) ?_
              refine wp_seq ?_
              refine lwp_list ?_
              refine ls_move (x := x35) (by kernel_rfl) (by kernel_rfl) ?_
              refine ls_d (d := some 54) (by kernel_rfl) (by kernel_rfl) HA_6 (d_mnz (ps := #[3]) (t := 56) Try.func60 (by kernel_rfl) (by kernel_rfl) (by kernel_rfl) (by kernel_rfl) Try.underlying56 rfl rfl H) (fun x54 h_6 w_7 H HA_7 => ?_)
              refine ls_move (x := x35) (by kernel_rfl) (by kernel_rfl) ?_
              refine ls_move (x := x35) (by kernel_rfl) (by kernel_rfl) ?_
              refine ls_p (d := some 57) (by kernel_rfl) (by kernel_rfl) (p_sl3 Try.underlying56 Try.sizeOf5 (by kernel_rfl) (by kernel_rfl) (by kernel_rfl) (by kernel_rfl) H) (fun x57 H => ?_)
              refine ls_assign (x := x57) (by kernel_rfl) (by kernel_rfl) ?_
              refine ls_nil ?_
              refine then_normal ?_
              refine fr_eq (b := ⟨([x0, x1, undef, undef, (.slice none 0 0), x25, x26, x35, x8, x57, undef, undef, x1, x13, undef, x1, x16, (D 0), x24, x0, x20, x21, x1, x23, x24, x25, x26, x25, x28, x28, (D_1 0), (D_1 1), x32, (D_2 0), x26, x35, x0, x37, x38, undef, x35, x35, x42, (D_3 0), (D_3 1), (D_3 2), (D_3 3), (D_3 4), (D_3 5), (D_3 6)] ++ [(D_3 7), (D_3 8), (D_3 9), x35, x54, x35, x35, x57, undef, undef, undef, undef, undef, undef, undef, undef, undef, undef, undef, undef, undef, undef, undef, undef, undef, undef, undef]).toArray, []⟩) (by kernel_rfl) ?_
              refine wp_seq ?_
              refine lwp_list ?_
              refine ls_move (x := x57) (by kernel_rfl) (by kernel_rfl) ?_
              refine ls_move (x := x0) (by kernel_rfl) (by kernel_rfl) ?_
              refine ls_d (d := some 60) (by kernel_rfl) (by kernel_rfl) HA_7 (d_copy Try.underlying56 Try.sizeOf5 (by kernel_rfl) (by kernel_rfl) H) (fun x60 h_7 w_8 H HA_8 => ?_)
              refine ls_assign (x := x60) (by kernel_rfl) (by kernel_rfl) ?_
              refine ls_nil ?_
              refine then_normal ?_
              refine fr_eq (b := ⟨([x0, x1, undef, undef, (.slice none 0 0), x25, x26, x35, x8, x57, x60, undef, x1, x13, undef, x1, x16, (D 0), x24, x0, x20, x21, x1, x23, x24, x25, x26, x25, x28, x28, (D_1 0), (D_1 1), x32, (D_2 0), x26, x35, x0, x37, x38, undef, x35, x35, x42, (D_3 0), (D_3 1), (D_3 2), (D_3 3), (D_3 4), (D_3 5), (D_3 6)] ++ [(D_3 7), (D_3 8), (D_3 9), x35, x54, x35, x35, x57, x57, x0, x60, undef, undef, undef, undef, undef, undef, undef, undef, undef, undef, undef, undef, undef, undef, undef, undef]).toArray, []⟩) (by kernel_rfl) ?_
              refine wp_seq ?_
              refine wp_block ?_
              obtain ⟨I, m, H0, HB⟩ := H
              refine wp_loop (fun a w => ∃ (D_4 : Nat → Value) (x10 : Value) (h_8 : Heap), a = ⟨([x0, x1, undef, undef, (.slice none 0 0), x25, x26, x35, x8, x57, x10, (D_4 0), x1, x13, undef, x1, x16, (D 0), x24, x0, x20, x21, x1, x23, x24, x25, x26, x25, x28, x28, (D_1 0), (D_1 1), x32, (D_2 0), x26, x35, x0, x37, x38, undef, x35, x35, x42, (D_3 0), (D_3 1), (D_3 2), (D_3 3), (D_3 4), (D_3 5), (D_3 6)] ++ [(D_3 7), (D_3 8), (D_3 9), x35, x54, x35, x35, x57, x57, x0, x60, (D_4 1), (D_4 2), (D_4 3), (D_4 4), (D_4 5), (D_4 6), (D_4 7), (D_4 8), (D_4 9), (D_4 10), (D_4 11), (D_4 12), (D_4 13), (D_4 14), (D_4 15), undef]).toArray, []⟩ ∧ At w0 w h_8 ∧ I x10 h_8) (fun a w => m (a.tmps.getD 10 undef) w.heap) ?_ ?_
              · exact ⟨(fun i => ([undef, undef, undef, undef, undef, undef, undef, undef, undef, undef, undef, undef, undef, undef, undef, undef]).getD i undef), x60, h_7, by kernel_rfl, HA_8, H0⟩
              · rintro _ w_9 ⟨D_4, x10, h_8, rfl, HA_9, HI⟩
                have H : bytes_Repeat_l4 R x35 x8 x57 (fun x10' h' => I x10' h' ∧ m x10' h' < m x10 h_8) x10 h_8 := HB x10 h_8 HI
                clear HB H0 HI
                unfold bytes_Repeat_l4 at H
                refine wp_seq ?_
                refine wp_seq ?_
                refine lwp_list ?_
                refine ls_move (x := x10) (by kernel_rfl) (by kernel_rfl) ?_
                refine ls_move (x := x35) (by kernel_rfl) (by kernel_rfl) ?_
                refine ls_p (d := some 63) (by kernel_rfl) (by kernel_rfl) (p_sLt (by kernel_rfl) (by kernel_rfl) H) (fun x63 H => ?_)
                refine ls_nil ?_
                refine then_normal ?_
                refine fr_eq (b := ⟨([x0, x1, undef, undef, (.slice none 0 0), x25, x26, x35, x8, x57, x10, (D_4 0), x1, x13, undef, x1, x16, (D 0), x24, x0, x20, x21, x1, x23, x24, x25, x26, x25, x28, x28, (D_1 0), (D_1 1), x32, (D_2 0), x26, x35, x0, x37, x38, undef, x35, x35, x42, (D_3 0), (D_3 1), (D_3 2), (D_3 3), (D_3 4), (D_3 5), (D_3 6)] ++ [(D_3 7), (D_3 8), (D_3 9), x35, x54, x35, x35, x57, x57, x0, x60, x10, x35, x63, (D_4 4), (D_4 5), (D_4 6), (D_4 7), (D_4 8), (D_4 9), (D_4 10), (D_4 11), (D_4 12), (D_4 13), (D_4 14), (D_4 15), undef]).toArray, []⟩) (by kernel_rfl) ?_
                refine wp_if rfl H (fun H => ?_) (fun H => ?_)
                · refine wp_skip ?_
                  refine then_normal ?_
                  refine fr_eq (b := ⟨([x0, x1, undef, undef, (.slice none 0 0), x25, x26, x35, x8, x57, x10, (D_4 0), x1, x13, undef, x1, x16, (D 0), x24, x0, x20, x21, x1, x23, x24, x25, x26, x25, x28, x28, (D_1 0), (D_1 1), x32, (D_2 0), x26, x35, x0, x37, x38, undef, x35, x35, x42, (D_3 0), (D_3 1), (D_3 2), (D_3 3), (D_3 4), (D_3 5), (D_3 6)] ++ [(D_3 7), (D_3 8), (D_3 9), x35, x54, x35, x35, x57, x57, x0, x60, x10, x35, x63, (D_4 4), (D_4 5), (D_4 6), (D_4 7), (D_4 8), (D_4 9), (D_4 10), (D_4 11), (D_4 12), (D_4 13), (D_4 14), (D_4 15), undef]).toArray, []⟩) (by kernel_rfl) ?_
                  refine wp_block ?_
                  refine wp_seq ?_
                  refine lwp_list ?_
                  refine ls_move (x := x10) (by kernel_rfl) (by kernel_rfl) ?_
                  refine ls_move (x := x8) (by kernel_rfl) (by kernel_rfl) ?_
                  refine ls_p (d := some 66) (by kernel_rfl) (by kernel_rfl) (p_min (by kernel_rfl) (by kernel_rfl) H) (fun x66 H => ?_)
                  refine ls_assign (x := x66) (by kernel_rfl) (by kernel_rfl) ?_
                  refine ls_nil ?_
                  refine then_normal ?_
                  refine fr_eq (b := ⟨([x0, x1, undef, undef, (.slice none 0 0), x25, x26, x35, x8, x57, x10, x66, x1, x13, undef, x1, x16, (D 0), x24, x0, x20, x21, x1, x23, x24, x25, x26, x25, x28, x28, (D_1 0), (D_1 1), x32, (D_2 0), x26, x35, x0, x37, x38, undef, x35, x35, x42, (D_3 0), (D_3 1), (D_3 2), (D_3 3), (D_3 4), (D_3 5), (D_3 6)] ++ [(D_3 7), (D_3 8), (D_3 9), x35, x54, x35, x35, x57, x57, x0, x60, x10, x35, x63, x10, x8, x66, (D_4 7), (D_4 8), (D_4 9), (D_4 10), (D_4 11), (D_4 12), (D_4 13), (D_4 14), (D_4 15), undef]).toArray, []⟩) (by kernel_rfl) ?_
                  refine lwp_mx (Nat.testBit 128) (Nat.testBit 0) (Nat.testBit 895) [0, 0, 0, 6, 0, 0, 48, 126, 255, 511] (Nat.testBit 0) (fun h' => h' = h_8) [0, 1, 2, 3, 4, 5, 6, 7, 8, 9] (by kernel_rfl) (by kernel_rfl) (by kernel_rfl) (by kernel_rfl) HA_9 rfl ?_
                  intro w_10 HA_10
                  refine lm_al (x := x10) (d := some 67) (by kernel_rfl) rfl (by kernel_rfl) (by kernel_rfl) (al_move (by kernel_rfl)) ?_
                  refine lm_al (x := x57) (d := some 68) (by kernel_rfl) rfl (by kernel_rfl) (by kernel_rfl) (al_move (by kernel_rfl)) ?_
                  refine lm_al (x := x10) (d := some 69) (by kernel_rfl) rfl (by kernel_rfl) (by kernel_rfl) (al_move (by kernel_rfl)) ?_
                  refine lm_p (d := some 70) (by kernel_rfl) rfl (by kernel_rfl) (by kernel_rfl) (p_sl Try.underlying56 Try.sizeOf5 (by kernel_rfl) (by kernel_rfl) (by kernel_rfl) H) (fun x70 H => ?_)
                  refine lm_al (x := x57) (d := some 71) (by kernel_rfl) rfl (by kernel_rfl) (by kernel_rfl) (al_move (by kernel_rfl)) ?_
                  refine lm_al (x := x66) (d := some 72) (by kernel_rfl) rfl (by kernel_rfl) (by kernel_rfl) (al_move (by kernel_rfl)) ?_
                  refine lm_fr (b := ⟨([x0, x1, undef, undef, (.slice none 0 0), x25, x26, x35, x8, x57, x10, x66, x1, x13, undef, x1, x16, (D 0), x24, x0, x20, x21, x1, x23, x24, x25, x26, x25, x28, x28, (D_1 0), (D_1 1), x32, (D_2 0), x26, x35, x0, x37, x38, undef, x35, x35, x42, (D_3 0), (D_3 1), (D_3 2), (D_3 3), (D_3 4), (D_3 5), (D_3 6)] ++ [(D_3 7), (D_3 8), (D_3 9), x35, x54, x35, x35, x57, x57, x0, x60, x10, x35, x63, x10, x8, x66, x10, x57, x10, x70, x57, x66, (D_4 13), (D_4 14), (D_4 15), undef]).toArray, []⟩) (by kernel_rfl) ?_
                  refine lm_p (d := some 73) (by kernel_rfl) rfl (by kernel_rfl) (by kernel_rfl) (p_sl Try.underlying56 Try.sizeOf5 (by kernel_rfl) (by kernel_rfl) (by kernel_rfl) H) (fun x73 H => ?_)
                  refine lm_d (d := some 74) (by kernel_rfl) rfl (by kernel_rfl) (by kernel_rfl) (by kernel_rfl) HA_10 (d_copy Try.underlying56 Try.sizeOf5 (by kernel_rfl) (by kernel_rfl) H) (fun x74 h_9 w_11 H HA_11 => ?_)
                  refine lm_p (d := some 75) (by kernel_rfl) rfl (by kernel_rfl) (by kernel_rfl) (p_add (by kernel_rfl) (by kernel_rfl) H) (fun x75 H => ?_)
                  refine lm_al (x := x75) (d := some 10) (by kernel_rfl) rfl (by kernel_rfl) (by kernel_rfl) (al_assign (by kernel_rfl)) ?_
                  refine lm_nil ?_
                  refine block_normal ?_
                  exact ⟨⟨(fun i => ([x66, x10, x35, x63, x10, x8, x66, x10, x57, x10, x70, x57, x66, x73, x74, x75]).getD i undef), x75, h_9, by kernel_rfl, HA_11, H.1⟩, loop_lt HA_11.heap HA_9.heap (by kernel_rfl) (by kernel_rfl) H.2⟩
                · refine wp_exit ?_
                  refine then_exit ?_
                  refine then_exit ?_
                  refine block_exit ?_
                  refine then_normal ?_
                  refine fr_eq (b := ⟨([x0, x1, undef, undef, (.slice none 0 0), x25, x26, x35, x8, x57, x10, (D_4 0), x1, x13, undef, x1, x16, (D 0), x24, x0, x20, x21, x1, x23, x24, x25, x26, x25, x28, x28, (D_1 0), (D_1 1), x32, (D_2 0), x26, x35, x0, x37, x38, undef, x35, x35, x42, (D_3 0), (D_3 1), (D_3 2), (D_3 3), (D_3 4), (D_3 5), (D_3 6)] ++ [(D_3 7), (D_3 8), (D_3 9), x35, x54, x35, x35, x57, x57, x0, x60, x10, x35, x63, (D_4 4), (D_4 5), (D_4 6), (D_4 7), (D_4 8), (D_4 9), (D_4 10), (D_4 11), (D_4 12), (D_4 13), (D_4 14), (D_4 15), undef]).toArray, []⟩) (by kernel_rfl) ?_
                  refine wp_seq ?_
                  refine lwp_list ?_
                  refine ls_move (x := x57) (by kernel_rfl) (by kernel_rfl) ?_
                  refine ls_assign (x := x57) (by kernel_rfl) (by kernel_rfl) ?_
                  refine ls_nil ?_
                  refine then_normal ?_
                  refine fr_eq (b := ⟨([x0, x1, undef, undef, x57, x25, x26, x35, x8, x57, x10, (D_4 0), x1, x13, undef, x1, x16, (D 0), x24, x0, x20, x21, x1, x23, x24, x25, x26, x25, x28, x28, (D_1 0), (D_1 1), x32, (D_2 0), x26, x35, x0, x37, x38, undef, x35, x35, x42, (D_3 0), (D_3 1), (D_3 2), (D_3 3), (D_3 4), (D_3 5), (D_3 6)] ++ [(D_3 7), (D_3 8), (D_3 9), x35, x54, x35, x35, x57, x57, x0, x60, x10, x35, x63, (D_4 4), (D_4 5), (D_4 6), (D_4 7), (D_4 8), (D_4 9), (D_4 10), (D_4 11), (D_4 12), (D_4 13), (D_4 14), (D_4 15), x57]).toArray, []⟩) (by kernel_rfl) ?_
                  refine wp_ret ?_
                  exact end1 (Try.results57) (by kernel_rfl) (by kernel_rfl) HA_9 H _ (.inr rfl)

end Go.Proofs.Ythhpieidlpjbmaa
