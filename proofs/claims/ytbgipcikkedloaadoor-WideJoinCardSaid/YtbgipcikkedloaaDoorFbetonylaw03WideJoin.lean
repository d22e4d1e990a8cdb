/- The shallow reading of one function, and that the function does it. Written by a program. -/
import Derived.Test.YtbgipcikkedloaaDoorFnC
set_option linter.unusedVariables false
namespace Go.Proofs.YtbgipcikkedloaaDoor
open Go Go.HW

def betonylaw03_WideJoin_S (x0 x1 : Value) (h : Heap) (R : Value → Heap → Prop) : Prop :=
  sLen x0 fun x9 =>
  sGt x9 (.int .i64 100) fun x10 =>
  sOr x10 (fun k_3 =>
  sLen x1 fun x13 =>
  sGt x13 (.int .i64 100) fun x14 =>
  k_3 x14) fun x15 =>
  sIf x15 (betonylaw03_awake_c  h fun x16 h => 
  R x16 h) (sSlit h #[] [] 21 0 fun x17 h_1 => 
  sApp h_1 x17 x0 #[.int .i32 0] 21 4 fun x19 h_2 => 
  sApp h_2 x19 x1 #[.int .i32 0] 21 4 fun x21 h_3 => 
  sSlit h_3 #[] [] 21 0 fun x22 h_4 => 
  sApp h_4 x22 x1 #[.int .i32 0] 21 4 fun x24 h_5 => 
  sApp h_5 x24 x0 #[.int .i32 0] 21 4 fun x26 h_6 => 
  wide_Text_c x0 h_6 fun x28 h_7 => 
  wide_Text_c x1 h_7 fun x30 h_8 => 
  sAdd .i64 x28 x30 fun x31 =>
  wide_Text_c x21 h_8 fun x33 h_9 => 
  sEq x33 x31 fun x35 =>
  sAndH x35 h_9 (fun k_2 =>
  wide_Text_c x26 h_9 fun x38 h_15 => 
  sEq x38 x31 fun x40 =>
  k_2 x40 h_15) fun x41 h_10 =>
  sAndH x41 h_10 (fun k_1 =>
  wide_Fit_c x21 x31 h_10 fun x45 h_14 => 
  sLen x21 fun x47 =>
  sEq x45 x47 fun x48 =>
  k_1 x48 h_14) fun x49 h_11 =>
  sAndH x49 h_11 (fun k =>
  betonylaw03_awake_c  h_11 fun x51 h_13 => 
  k x51 h_13) fun x52 h_12 =>
  R x52 h_12)
set_option maxRecDepth 100000 in
theorem betonylaw03_WideJoin_runs {x0 x1 : Value} {h : Heap} {R : Value → Heap → Prop} (H : betonylaw03_WideJoin_S x0 x1 h R) : betonylaw03_WideJoin_c x0 x1 h R := by
  unfold betonylaw03_WideJoin_S at H
  refine runs_of (b := ⟨#[x0, x1, undef, undef, undef, undef, undef, undef, undef, undef, undef, undef, undef, undef, undef, undef, undef, undef, undef, undef, undef, undef, undef, undef, undef, undef, undef, undef, undef, undef, undef, undef, undef, undef, undef, undef, undef, undef, undef, undef, undef, undef, undef, undef, undef, undef, undef, undef, undef, undef, undef, undef, undef], []⟩) Tryd.call5 Tryd.func5 rfl (by kernel_rfl) (fun w0 HA => ?_)
  refine wp_seq ?_
  refine lwp_list ?_
  refine ls_assign (x := (.bool false)) (by kernel_rfl) (by kernel_rfl) ?_
  refine ls_nil ?_
  refine then_normal ?_
  refine fr_eq (b := ⟨#[x0, x1, undef, undef, (.bool false), undef, undef, undef, undef, undef, undef, undef, undef, undef, undef, undef, undef, undef, undef, undef, undef, undef, undef, undef, undef, undef, undef, undef, undef, undef, undef, undef, undef, undef, undef, undef, undef, undef, undef, undef, undef, undef, undef, undef, undef, undef, undef, undef, undef, undef, undef, undef, undef], []⟩) (by kernel_rfl) ?_
  refine wp_seq ?_
  refine wp_seq ?_
  refine lwp_list ?_
  refine ls_move (x := x0) (by kernel_rfl) (by kernel_rfl) ?_
  refine ls_p (d := some 9) (by kernel_rfl) (by kernel_rfl) (p_len Tryd.underlying26 (by kernel_rfl) H) (fun x9 H => ?_)
  refine ls_p (d := some 10) (by kernel_rfl) (by kernel_rfl) (p_sGt (by kernel_rfl) (by kernel_rfl) H) (fun x10 H => ?_)
  refine ls_move (x := x10) (by kernel_rfl) (by kernel_rfl) ?_
  refine ls_or [(), (), (), ()] (fun K a w => ∃ (D : Nat → Value) (x15 : Value), a = ⟨#[x0, x1, undef, undef, (.bool false), undef, undef, undef, x0, x9, x10, x10, (D 0), (D 1), (D 2), x15, undef, undef, undef, undef, undef, undef, undef, undef, undef, undef, undef, undef, undef, undef, undef, undef, undef, undef, undef, undef, undef, undef, undef, undef, undef, undef, undef, undef, undef, undef, undef, undef, undef, undef, undef, undef, undef], []⟩ ∧ At w0 w h ∧ K x15) H (fun hb_3 H => ?_) (fun hb_3 H => ?_) ?_
  · refine ls_move (x := x1) (by rw [hb_3]; kernel_rfl) (by kernel_rfl) ?_
    refine ls_p (d := some 13) (by kernel_rfl) (by rw [hb_3]; kernel_rfl) (p_len Tryd.underlying26 (by kernel_rfl) H) (fun x13 H => ?_)
    refine ls_fr (b := ⟨#[x0, x1, undef, undef, (.bool false), undef, undef, undef, x0, x9, x10, x10, x1, x13, undef, undef, undef, undef, undef, undef, undef, undef, undef, undef, undef, undef, undef, undef, undef, undef, undef, undef, undef, undef, undef, undef, undef, undef, undef, undef, undef, undef, undef, undef, undef, undef, undef, undef, undef, undef, undef, undef, undef], []⟩) (by kernel_rfl) ?_
    refine ls_p (d := some 14) (by kernel_rfl) (by rw [hb_3]; kernel_rfl) (p_sGt (by kernel_rfl) (by kernel_rfl) H) (fun x14 H => ?_)
    refine ls_pick_f (y := x14) (by kernel_rfl) (by rw [hb_3]; kernel_rfl) (by kernel_rfl) ?_
    refine ls_nil ?_
    refine then_normal ?_
    exact ⟨(fun i => ([x1, x13, x14]).getD i undef), x14, by kernel_rfl, HA, H⟩
  · refine ls_skip (d := some 12) (by kernel_rfl) (by rw [hb_3]; kernel_rfl) ?_
    refine ls_skip (d := some 13) (by kernel_rfl) (by rw [hb_3]; kernel_rfl) ?_
    refine ls_fr (b := ⟨#[x0, x1, undef, undef, (.bool false), undef, undef, undef, x0, x9, x10, x10, undef, undef, undef, undef, undef, undef, undef, undef, undef, undef, undef, undef, undef, undef, undef, undef, undef, undef, undef, undef, undef, undef, undef, undef, undef, undef, undef, undef, undef, undef, undef, undef, undef, undef, undef, undef, undef, undef, undef, undef, undef], []⟩) (by kernel_rfl) ?_
    refine ls_skip (d := some 14) (by kernel_rfl) (by rw [hb_3]; kernel_rfl) ?_
    refine ls_pick_t (x := (.bool true)) (by kernel_rfl) (by rw [hb_3]; kernel_rfl) (by kernel_rfl) ?_
    refine ls_nil ?_
    refine then_normal ?_
    exact ⟨(fun i => ([undef, undef, undef]).getD i undef), (.bool true), by kernel_rfl, HA, H⟩
  · rintro _ w ⟨D, x15, rfl, HA, H⟩
    refine ls_nil ?_
    refine then_normal ?_
    refine fr_eq (b := ⟨#[x0, x1, undef, undef, (.bool false), undef, undef, undef, x0, x9, x10, x10, (D 0), (D 1), (D 2), x15, undef, undef, undef, undef, undef, undef, undef, undef, undef, undef, undef, undef, undef, undef, undef, undef, undef, undef, undef, undef, undef, undef, undef, undef, undef, undef, undef, undef, undef, undef, undef, undef, undef, undef, undef, undef, undef], []⟩) (by kernel_rfl) ?_
    refine wp_if rfl H (fun H => ?_) (fun H => ?_)
    · refine wp_seq ?_
      refine lwp_list ?_
      refine ls_d (d := some 16) (by kernel_rfl) (by kernel_rfl) HA (d_call (by kernel_rfl) (by kernel_rfl) H) (fun x16 h w_1 H HA_1 => ?_)
      refine ls_assign (x := x16) (by kernel_rfl) (by kernel_rfl) ?_
      refine ls_nil ?_
      refine then_normal ?_
      refine fr_eq (b := ⟨#[x0, x1, undef, undef, x16, undef, undef, undef, x0, x9, x10, x10, (D 0), (D 1), (D 2), x15, x16, undef, undef, undef, undef, undef, undef, undef, undef, undef, undef, undef, undef, undef, undef, undef, undef, undef, undef, undef, undef, undef, undef, undef, undef, undef, undef, undef, undef, undef, undef, undef, undef, undef, undef, undef, undef], []⟩) (by kernel_rfl) ?_
      refine wp_ret ?_
      refine then_ret ?_
      exact end1 (Tryd.results5) (by kernel_rfl) (by kernel_rfl) HA_1 H _ (.inr rfl)
    · refine wp_skip ?_
      refine then_normal ?_
      refine fr_eq (b := ⟨#[x0, x1, undef, undef, (.bool false), undef, undef, undef, x0, x9, x10, x10, (D 0), (D 1), (D 2), x15, undef, undef, undef, undef, undef, undef, undef, undef, undef, undef, undef, undef, undef, undef, undef, undef, undef, undef, undef, undef, undef, undef, undef, undef, undef, undef, undef, undef, undef, undef, undef, undef, undef, undef, undef, undef, undef], []⟩) (by kernel_rfl) ?_
      refine wp_seq ?_
      refine lwp_list ?_
      refine ls_d (d := some 17) (by kernel_rfl) (by kernel_rfl) HA (d_slit (zc := #[]) Tryd.underlying26 Tryd.sizeOf21 (by decide) (.inl ⟨(by kernel_rfl), (by kernel_rfl)⟩) (by kernel_rfl) (by kernel_rfl) H) (fun x17 h_1 w_2 H HA_2 => ?_)
      refine ls_move (x := x0) (by kernel_rfl) (by kernel_rfl) ?_
      refine ls_d (d := some 19) (by kernel_rfl) (by kernel_rfl) HA_2 (d_app (z := #[.int .i32 0]) Tryd.underlying26 Tryd.underlying26 (.inl ⟨_, rfl⟩) Tryd.typeInfo21 (by kernel_rfl) Tryd.sizeOf21 Tryd.zeroValue21 (by kernel_rfl) (by kernel_rfl) (by kernel_rfl) H) (fun x19 h_2 w_3 H HA_3 => ?_)
      refine ls_move (x := x1) (by kernel_rfl) (by kernel_rfl) ?_
      refine ls_d (d := some 21) (by kernel_rfl) (by kernel_rfl) HA_3 (d_app (z := #[.int .i32 0]) Tryd.underlying26 Tryd.underlying26 (.inl ⟨_, rfl⟩) Tryd.typeInfo21 (by kernel_rfl) Tryd.sizeOf21 Tryd.zeroValue21 (by kernel_rfl) (by kernel_rfl) (by kernel_rfl) H) (fun x21 h_3 w_4 H HA_4 => ?_)
      refine ls_assign (x := x21) (by kernel_rfl) (by kernel_rfl) ?_
      refine ls_nil ?_
      refine then_normal ?_
      refine fr_eq (b := ⟨#[x0, x1, undef, undef, (.bool false), x21, undef, undef, x0, x9, x10, x10, (D 0), (D 1), (D 2), x15, undef, x17, x0, x19, x1, x21, undef, undef, undef, undef, undef, undef, undef, undef, undef, undef, undef, undef, undef, undef, undef, undef, undef, undef, undef, undef, undef, undef, undef, undef, undef, undef, undef, undef, undef, undef, undef], []⟩) (by kernel_rfl) ?_
      refine wp_seq ?_
      refine lwp_list ?_
      refine ls_d (d := some 22) (by kernel_rfl) (by kernel_rfl) HA_4 (d_slit (zc := #[]) Tryd.underlying26 Tryd.sizeOf21 (by decide) (.inl ⟨(by kernel_rfl), (by kernel_rfl)⟩) (by kernel_rfl) (by kernel_rfl) H) (fun x22 h_4 w_5 H HA_5 => ?_)
      refine ls_move (x := x1) (by kernel_rfl) (by kernel_rfl) ?_
      refine ls_d (d := some 24) (by kernel_rfl) (by kernel_rfl) HA_5 (d_app (z := #[.int .i32 0]) Tryd.underlying26 Tryd.underlying26 (.inl ⟨_, rfl⟩) Tryd.typeInfo21 (by kernel_rfl) Tryd.sizeOf21 Tryd.zeroValue21 (by kernel_rfl) (by kernel_rfl) (by kernel_rfl) H) (fun x24 h_5 w_6 H HA_6 => ?_)
      refine ls_move (x := x0) (by kernel_rfl) (by kernel_rfl) ?_
      refine ls_d (d := some 26) (by kernel_rfl) (by kernel_rfl) HA_6 (d_app (z := #[.int .i32 0]) Tryd.underlying26 Tryd.underlying26 (.inl ⟨_, rfl⟩) Tryd.typeInfo21 (by kernel_rfl) Tryd.sizeOf21 Tryd.zeroValue21 (by kernel_rfl) (by kernel_rfl) (by kernel_rfl) H) (fun x26 h_6 w_7 H HA_7 => ?_)
      refine ls_assign (x := x26) (by kernel_rfl) (by kernel_rfl) ?_
      refine ls_nil ?_
      refine then_normal ?_
      refine fr_eq (b := ⟨#[x0, x1, undef, undef, (.bool false), x21, x26, undef, x0, x9, x10, x10, (D 0), (D 1), (D 2), x15, undef, x17, x0, x19, x1, x21, x22, x1, x24, x0, x26, undef, undef, undef, undef, undef, undef, undef, undef, undef, undef, undef, undef, undef, undef, undef, undef, undef, undef, undef, undef, undef, undef, undef, undef, undef, undef], []⟩) (by kernel_rfl) ?_
      refine wp_seq ?_
      refine lwp_list ?_
      refine ls_move (x := x0) (by kernel_rfl) (by kernel_rfl) ?_
      refine ls_d (d := some 28) (by kernel_rfl) (by kernel_rfl) HA_7 (d_call (by kernel_rfl) (by kernel_rfl) H) (fun x28 h_7 w_8 H HA_8 => ?_)
      refine ls_move (x := x1) (by kernel_rfl) (by kernel_rfl) ?_
      refine ls_d (d := some 30) (by kernel_rfl) (by kernel_rfl) HA_8 (d_call (by kernel_rfl) (by kernel_rfl) H) (fun x30 h_8 w_9 H HA_9 => ?_)
      refine ls_p (d := some 31) (by kernel_rfl) (by kernel_rfl) (p_add (by kernel_rfl) (by kernel_rfl) H) (fun x31 H => ?_)
      refine ls_assign (x := x31) (by kernel_rfl) (by kernel_rfl) ?_
      refine ls_nil ?_
      refine then_normal ?_
      refine fr_eq (b := ⟨#[x0, x1, undef, undef, (.bool false), x21, x26, x31, x0, x9, x10, x10, (D 0), (D 1), (D 2), x15, undef, x17, x0, x19, x1, x21, x22, x1, x24, x0, x26, x0, x28, x1, x30, x31, undef, undef, undef, undef, undef, undef, undef, undef, undef, undef, undef, undef, undef, undef, undef, undef, undef, undef, undef, undef, undef], []⟩) (by kernel_rfl) ?_
      refine wp_seq ?_
      refine lwp_list ?_
      refine ls_move (x := x21) (by kernel_rfl) (by kernel_rfl) ?_
      refine ls_d (d := some 33) (by kernel_rfl) (by kernel_rfl) HA_9 (d_call (by kernel_rfl) (by kernel_rfl) H) (fun x33 h_9 w_10 H HA_10 => ?_)
      refine ls_move (x := x31) (by kernel_rfl) (by kernel_rfl) ?_
      refine ls_p (d := some 35) (by kernel_rfl) (by kernel_rfl) (p_sEq (by kernel_rfl) (by kernel_rfl) H) (fun x35 H => ?_)
      refine ls_move (x := x35) (by kernel_rfl) (by kernel_rfl) ?_
      refine ls_andh [(), (), (), (), ()] (fun K a w => ∃ (D_1 : Nat → Value) (x41 : Value) (h_10 : Heap), a = ⟨#[x0, x1, undef, undef, (.bool false), x21, x26, x31, x0, x9, x10, x10, (D 0), (D 1), (D 2), x15, undef, x17, x0, x19, x1, x21, x22, x1, x24, x0, x26, x0, x28, x1, x30, x31, x21, x33, x31, x35, x35, (D_1 0), (D_1 1), (D_1 2), (D_1 3), x41, undef, undef, undef, undef, undef, undef, undef, undef, undef, undef, undef], []⟩ ∧ At w0 w h_10 ∧ K x41 h_10) H (fun hb_2 H => ?_) (fun hb_2 H => ?_) ?_
      · refine ls_move (x := x26) (by rw [hb_2]; kernel_rfl) (by kernel_rfl) ?_
        refine ls_fr (b := ⟨#[x0, x1, undef, undef, (.bool false), x21, x26, x31, x0, x9, x10, x10, (D 0), (D 1), (D 2), x15, undef, x17, x0, x19, x1, x21, x22, x1, x24, x0, x26, x0, x28, x1, x30, x31, x21, x33, x31, x35, x35, x26, undef, undef, undef, undef, undef, undef, undef, undef, undef, undef, undef, undef, undef, undef, undef], []⟩) (by kernel_rfl) ?_
        refine ls_d (d := some 38) (by kernel_rfl) (by rw [hb_2]; kernel_rfl) HA_10 (d_call (by kernel_rfl) (by kernel_rfl) H) (fun x38 h_15 w_16 H HA_16 => ?_)
        refine ls_move (x := x31) (by rw [hb_2]; kernel_rfl) (by kernel_rfl) ?_
        refine ls_p (d := some 40) (by kernel_rfl) (by rw [hb_2]; kernel_rfl) (p_sEq (by kernel_rfl) (by kernel_rfl) H) (fun x40 H => ?_)
        refine ls_pick_t (x := x40) (by kernel_rfl) (by rw [hb_2]; kernel_rfl) (by kernel_rfl) ?_
        refine ls_nil ?_
        refine then_normal ?_
        exact ⟨(fun i => ([x26, x38, x31, x40]).getD i undef), x40, h_15, by kernel_rfl, HA_16, H⟩
      · refine ls_skip (d := some 37) (by kernel_rfl) (by rw [hb_2]; kernel_rfl) ?_
        refine ls_fr (b := ⟨#[x0, x1, undef, undef, (.bool false), x21, x26, x31, x0, x9, x10, x10, (D 0), (D 1), (D 2), x15, undef, x17, x0, x19, x1, x21, x22, x1, x24, x0, x26, x0, x28, x1, x30, x31, x21, x33, x31, x35, x35, undef, undef, undef, undef, undef, undef, undef, undef, undef, undef, undef, undef, undef, undef, undef, undef], []⟩) (by kernel_rfl) ?_
        refine ls_skip (d := some 38) (by kernel_rfl) (by rw [hb_2]; kernel_rfl) ?_
        refine ls_skip (d := some 39) (by kernel_rfl) (by rw [hb_2]; kernel_rfl) ?_
        refine ls_skip (d := some 40) (by kernel_rfl) (by rw [hb_2]; kernel_rfl) ?_
        refine ls_pick_f (y := (.bool false)) (by kernel_rfl) (by rw [hb_2]; kernel_rfl) (by kernel_rfl) ?_
        refine ls_nil ?_
        refine then_normal ?_
        exact ⟨(fun i => ([undef, undef, undef, undef]).getD i undef), (.bool false), h_9, by kernel_rfl, HA_10, H⟩
      · rintro _ w_11 ⟨D_1, x41, h_10, rfl, HA_11, H⟩
        refine ls_move (x := x41) (by kernel_rfl) (by kernel_rfl) ?_
        refine ls_andh [(), (), (), (), (), (), ()] (fun K a w => ∃ (D_2 : Nat → Value) (x49 : Value) (h_11 : Heap), a = ⟨#[x0, x1, undef, undef, (.bool false), x21, x26, x31, x0, x9, x10, x10, (D 0), (D 1), (D 2), x15, undef, x17, x0, x19, x1, x21, x22, x1, x24, x0, x26, x0, x28, x1, x30, x31, x21, x33, x31, x35, x35, (D_1 0), (D_1 1), (D_1 2), (D_1 3), x41, x41, (D_2 0), (D_2 1), (D_2 2), (D_2 3), (D_2 4), (D_2 5), x49, undef, undef, undef], []⟩ ∧ At w0 w h_11 ∧ K x49 h_11) H (fun hb_1 H => ?_) (fun hb_1 H => ?_) ?_
        · refine ls_move (x := x21) (by rw [hb_1]; kernel_rfl) (by kernel_rfl) ?_
          refine ls_move (x := x31) (by rw [hb_1]; kernel_rfl) (by kernel_rfl) ?_
          refine ls_d (d := some 45) (by kernel_rfl) (by rw [hb_1]; kernel_rfl) HA_11 (d_call (by kernel_rfl) (by kernel_rfl) H) (fun x45 h_14 w_15 H HA_15 => ?_)
          refine ls_move (x := x21) (by rw [hb_1]; kernel_rfl) (by kernel_rfl) ?_
          refine ls_p (d := some 47) (by kernel_rfl) (by rw [hb_1]; kernel_rfl) (p_len Tryd.underlying26 (by kernel_rfl) H) (fun x47 H => ?_)
          refine ls_fr (b := ⟨#[x0, x1, undef, undef, (.bool false), x21, x26, x31, x0, x9, x10, x10, (D 0), (D 1), (D 2), x15, undef, x17, x0, x19, x1, x21, x22, x1, x24, x0, x26, x0, x28, x1, x30, x31, x21, x33, x31, x35, x35, (D_1 0), (D_1 1), (D_1 2), (D_1 3), x41, x41, x21, x31, x45, x21, x47, undef, undef, undef, undef, undef], []⟩) (by kernel_rfl) ?_
          refine ls_p (d := some 48) (by kernel_rfl) (by rw [hb_1]; kernel_rfl) (p_sEq (by kernel_rfl) (by kernel_rfl) H) (fun x48 H => ?_)
          refine ls_pick_t (x := x48) (by kernel_rfl) (by rw [hb_1]; kernel_rfl) (by kernel_rfl) ?_
          refine ls_nil ?_
          refine then_normal ?_
          exact ⟨(fun i => ([x21, x31, x45, x21, x47, x48]).getD i undef), x48, h_14, by kernel_rfl, HA_15, H⟩
        · refine ls_skip (d := some 43) (by kernel_rfl) (by rw [hb_1]; kernel_rfl) ?_
          refine ls_skip (d := some 44) (by kernel_rfl) (by rw [hb_1]; kernel_rfl) ?_
          refine ls_skip (d := some 45) (by kernel_rfl) (by rw [hb_1]; kernel_rfl) ?_
          refine ls_skip (d := some 46) (by kernel_rfl) (by rw [hb_1]; kernel_rfl) ?_
          refine ls_skip (d := some 47) (by kernel_rfl) (by rw [hb_1]; kernel_rfl) ?_
          refine ls_fr (b := ⟨#[x0, x1, undef, undef, (.bool false), x21, x26, x31, x0, x9, x10, x10, (D 0), (D 1), (D 2), x15, undef, x17, x0, x19, x1, x21, x22, x1, x24, x0, x26, x0, x28, x1, x30, x31, x21, x33, x31, x35, x35, (D_1 0), (D_1 1), (D_1 2), (D_1 3), x41, x41, undef, undef, undef, undef, undef, undef, undef, undef, undef, undef], []⟩) (by kernel_rfl) ?_
          refine ls_skip (d := some 48) (by kernel_rfl) (by rw [hb_1]; kernel_rfl) ?_
          refine ls_pick_f (y := (.bool false)) (by kernel_rfl) (by rw [hb_1]; kernel_rfl) (by kernel_rfl) ?_
          refine ls_nil ?_
          refine then_normal ?_
          exact ⟨(fun i => ([undef, undef, undef, undef, undef, undef]).getD i undef), (.bool false), h_10, by kernel_rfl, HA_11, H⟩
        · rintro _ w_12 ⟨D_2, x49, h_11, rfl, HA_12, H⟩
          refine ls_move (x := x49) (by kernel_rfl) (by kernel_rfl) ?_
          refine ls_andh [(), ()] (fun K a w => ∃ (D_3 : Nat → Value) (x52 : Value) (h_12 : Heap), a = ⟨#[x0, x1, undef, undef, (.bool false), x21, x26, x31, x0, x9, x10, x10, (D 0), (D 1), (D 2), x15, undef, x17, x0, x19, x1, x21, x22, x1, x24, x0, x26, x0, x28, x1, x30, x31, x21, x33, x31, x35, x35, (D_1 0), (D_1 1), (D_1 2), (D_1 3), x41, x41, (D_2 0), (D_2 1), (D_2 2), (D_2 3), (D_2 4), (D_2 5), x49, x49, (D_3 0), x52], []⟩ ∧ At w0 w h_12 ∧ K x52 h_12) H (fun hb H => ?_) (fun hb H => ?_) ?_
          · refine ls_d (d := some 51) (by kernel_rfl) (by rw [hb]; kernel_rfl) HA_12 (d_call (by kernel_rfl) (by kernel_rfl) H) (fun x51 h_13 w_14 H HA_14 => ?_)
            refine ls_pick_t (x := x51) (by kernel_rfl) (by rw [hb]; kernel_rfl) (by kernel_rfl) ?_
            refine ls_nil ?_
            refine then_normal ?_
            exact ⟨(fun i => ([x51]).getD i undef), x51, h_13, by kernel_rfl, HA_14, H⟩
          · refine ls_skip (d := some 51) (by kernel_rfl) (by rw [hb]; kernel_rfl) ?_
            refine ls_pick_f (y := (.bool false)) (by kernel_rfl) (by rw [hb]; kernel_rfl) (by kernel_rfl) ?_
            refine ls_nil ?_
            refine then_normal ?_
            exact ⟨(fun i => ([undef]).getD i undef), (.bool false), h_11, by kernel_rfl, HA_12, H⟩
          · rintro _ w_13 ⟨D_3, x52, h_12, rfl, HA_13, H⟩
            refine ls_assign (x := x52) (by kernel_rfl) (by kernel_rfl) ?_
            refine ls_nil ?_
            refine then_normal ?_
            refine fr_eq (b := ⟨#[x0, x1, undef, undef, x52, x21, x26, x31, x0, x9, x10, x10, (D 0), (D 1), (D 2), x15, undef, x17, x0, x19, x1, x21, x22, x1, x24, x0, x26, x0, x28, x1, x30, x31, x21, x33, x31, x35, x35, (D_1 0), (D_1 1), (D_1 2), (D_1 3), x41, x41, (D_2 0), (D_2 1), (D_2 2), (D_2 3), (D_2 4), (D_2 5), x49, x49, (D_3 0), x52], []⟩) (by kernel_rfl) ?_
            refine wp_ret ?_
            exact end1 (Tryd.results5) (by kernel_rfl) (by kernel_rfl) HA_13 H _ (.inr rfl)

end Go.Proofs.YtbgipcikkedloaaDoor
