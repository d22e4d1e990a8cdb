/- The shallow reading of one function, and that the function does it. Written by a program. -/
import Derived.Test.YtpgpbhbpamgboaaDoorFnC
set_option linter.unusedVariables false
namespace Go.Proofs.YtpgpbhbpamgboaaDoor
open Go Go.HW

def charset_Sets_Put_S (x0 x1 x2 : Value) (h : Heap) (R : Value → Heap → Prop) : Prop :=
  sEq x2 (.int .u8 66) fun x9 =>
  sOr x9 (fun k_3 =>
  sEq x2 (.int .u8 65) fun x12 =>
  k_3 x12) fun x13 =>
  sOr x13 (fun k_2 =>
  sEq x2 (.int .u8 48) fun x16 =>
  k_2 x16) fun x17 =>
  sLt x1 (.int .i64 0) fun x19 =>
  sOr x19 (fun k_1 =>
  sGt x1 (.int .i64 1) fun x22 =>
  k_1 x22) fun x23 =>
  sOr x23 (fun k =>
  sNot x17 fun x26 =>
  k x26) fun x27 =>
  sIf x27 (R (.bool false) h) (sNil x0 fun x31 =>
  sOff x31 0 fun x32 =>
  sIxA x32 x1 2 1 fun x33 =>
  sSt h x33 x2 fun h => 
  R (.bool true) h)
set_option maxRecDepth 100000 in
theorem charset_Sets_Put_runs {x0 x1 x2 : Value} {h : Heap} {R : Value → Heap → Prop} (H : charset_Sets_Put_S x0 x1 x2 h R) : charset_Sets_Put_c x0 x1 x2 h R := by
  unfold charset_Sets_Put_S at H
  refine runs_of (b := ⟨#[x0, x1, x2, undef, undef, undef, undef, undef, undef, undef, undef, undef, undef, undef, undef, undef, undef, undef, undef, undef, undef, undef, undef, undef, undef, undef, undef, undef, undef, undef, undef, undef, undef, undef], []⟩) Tryd.call6 Tryd.func6 rfl (by kernel_rfl) (fun w0 HA => ?_)
  refine wp_seq ?_
  refine lwp_list ?_
  refine ls_assign (x := (.bool false)) (by kernel_rfl) (by kernel_rfl) ?_
  refine ls_nil ?_
  refine then_normal ?_
  refine fr_eq (b := ⟨#[x0, x1, x2, undef, undef, undef, (.bool false), undef, undef, undef, undef, undef, undef, undef, undef, undef, undef, undef, undef, undef, undef, undef, undef, undef, undef, undef, undef, undef, undef, undef, undef, undef, undef, undef], []⟩) (by kernel_rfl) ?_
  refine wp_seq ?_
  refine lwp_list ?_
  refine ls_move (x := x2) (by kernel_rfl) (by kernel_rfl) ?_
  refine ls_p (d := some 9) (by kernel_rfl) (by kernel_rfl) (p_sEq (by kernel_rfl) (by kernel_rfl) H) (fun x9 H => ?_)
  refine ls_move (x := x9) (by kernel_rfl) (by kernel_rfl) ?_
  refine ls_or [(), (), ()] (fun K a w => ∃ (D : Nat → Value) (x13 : Value), a = ⟨#[x0, x1, x2, undef, undef, undef, (.bool false), undef, x2, x9, x9, (D 0), (D 1), x13, undef, undef, undef, undef, undef, undef, undef, undef, undef, undef, undef, undef, undef, undef, undef, undef, undef, undef, undef, undef], []⟩ ∧ At w0 w h ∧ K x13) H (fun hb_3 H => ?_) (fun hb_3 H => ?_) ?_
  · refine ls_move (x := x2) (by rw [hb_3]; kernel_rfl) (by kernel_rfl) ?_
    refine ls_p (d := some 12) (by kernel_rfl) (by rw [hb_3]; kernel_rfl) (p_sEq (by kernel_rfl) (by kernel_rfl) H) (fun x12 H => ?_)
    refine ls_pick_f (y := x12) (by kernel_rfl) (by rw [hb_3]; kernel_rfl) (by kernel_rfl) ?_
    refine ls_nil ?_
    refine then_normal ?_
    exact ⟨(fun i => ([x2, x12]).getD i undef), x12, by kernel_rfl, HA, H⟩
  · refine ls_skip (d := some 11) (by kernel_rfl) (by rw [hb_3]; kernel_rfl) ?_
    refine ls_skip (d := some 12) (by kernel_rfl) (by rw [hb_3]; kernel_rfl) ?_
    refine ls_pick_t (x := (.bool true)) (by kernel_rfl) (by rw [hb_3]; kernel_rfl) (by kernel_rfl) ?_
    refine ls_nil ?_
    refine then_normal ?_
    exact ⟨(fun i => ([undef, undef]).getD i undef), (.bool true), by kernel_rfl, HA, H⟩
  · rintro _ w ⟨D, x13, rfl, HA, H⟩
    refine ls_move (x := x13) (by kernel_rfl) (by kernel_rfl) ?_
    refine ls_or [(), (), ()] (fun K a w => ∃ (D_1 : Nat → Value) (x17 : Value), a = ⟨#[x0, x1, x2, undef, undef, undef, (.bool false), undef, x2, x9, x9, (D 0), (D 1), x13, x13, (D_1 0), (D_1 1), x17, undef, undef, undef, undef, undef, undef, undef, undef, undef, undef, undef, undef, undef, undef, undef, undef], []⟩ ∧ At w0 w h ∧ K x17) H (fun hb_2 H => ?_) (fun hb_2 H => ?_) ?_
    · refine ls_move (x := x2) (by rw [hb_2]; kernel_rfl) (by kernel_rfl) ?_
      refine ls_p (d := some 16) (by kernel_rfl) (by rw [hb_2]; kernel_rfl) (p_sEq (by kernel_rfl) (by kernel_rfl) H) (fun x16 H => ?_)
      refine ls_pick_f (y := x16) (by kernel_rfl) (by rw [hb_2]; kernel_rfl) (by kernel_rfl) ?_
      refine ls_nil ?_
      refine then_normal ?_
      exact ⟨(fun i => ([x2, x16]).getD i undef), x16, by kernel_rfl, HA, H⟩
    · refine ls_skip (d := some 15) (by kernel_rfl) (by rw [hb_2]; kernel_rfl) ?_
      refine ls_skip (d := some 16) (by kernel_rfl) (by rw [hb_2]; kernel_rfl) ?_
      refine ls_pick_t (x := (.bool true)) (by kernel_rfl) (by rw [hb_2]; kernel_rfl) (by kernel_rfl) ?_
      refine ls_nil ?_
      refine then_normal ?_
      exact ⟨(fun i => ([undef, undef]).getD i undef), (.bool true), by kernel_rfl, HA, H⟩
    · rintro _ w_1 ⟨D_1, x17, rfl, HA_1, H⟩
      refine ls_assign (x := x17) (by kernel_rfl) (by kernel_rfl) ?_
      refine ls_nil ?_
      refine then_normal ?_
      refine fr_eq (b := ⟨#[x0, x1, x2, undef, undef, undef, (.bool false), x17, x2, x9, x9, (D 0), (D 1), x13, x13, (D_1 0), (D_1 1), x17, undef, undef, undef, undef, undef, undef, undef, undef, undef, undef, undef, undef, undef, undef, undef, undef], []⟩) (by kernel_rfl) ?_
      refine wp_seq ?_
      refine wp_seq ?_
      refine lwp_list ?_
      refine ls_move (x := x1) (by kernel_rfl) (by kernel_rfl) ?_
      refine ls_p (d := some 19) (by kernel_rfl) (by kernel_rfl) (p_sLt (by kernel_rfl) (by kernel_rfl) H) (fun x19 H => ?_)
      refine ls_move (x := x19) (by kernel_rfl) (by kernel_rfl) ?_
      refine ls_or [(), (), ()] (fun K a w => ∃ (D_2 : Nat → Value) (x23 : Value), a = ⟨#[x0, x1, x2, undef, undef, undef, (.bool false), x17, x2, x9, x9, (D 0), (D 1), x13, x13, (D_1 0), (D_1 1), x17, x1, x19, x19, (D_2 0), (D_2 1), x23, undef, undef, undef, undef, undef, undef, undef, undef, undef, undef], []⟩ ∧ At w0 w h ∧ K x23) H (fun hb_1 H => ?_) (fun hb_1 H => ?_) ?_
      · refine ls_move (x := x1) (by rw [hb_1]; kernel_rfl) (by kernel_rfl) ?_
        refine ls_p (d := some 22) (by kernel_rfl) (by rw [hb_1]; kernel_rfl) (p_sGt (by kernel_rfl) (by kernel_rfl) H) (fun x22 H => ?_)
        refine ls_pick_f (y := x22) (by kernel_rfl) (by rw [hb_1]; kernel_rfl) (by kernel_rfl) ?_
        refine ls_nil ?_
        refine then_normal ?_
        exact ⟨(fun i => ([x1, x22]).getD i undef), x22, by kernel_rfl, HA_1, H⟩
      · refine ls_skip (d := some 21) (by kernel_rfl) (by rw [hb_1]; kernel_rfl) ?_
        refine ls_skip (d := some 22) (by kernel_rfl) (by rw [hb_1]; kernel_rfl) ?_
        refine ls_pick_t (x := (.bool true)) (by kernel_rfl) (by rw [hb_1]; kernel_rfl) (by kernel_rfl) ?_
        refine ls_nil ?_
        refine then_normal ?_
        exact ⟨(fun i => ([undef, undef]).getD i undef), (.bool true), by kernel_rfl, HA_1, H⟩
      · rintro _ w_2 ⟨D_2, x23, rfl, HA_2, H⟩
        refine ls_move (x := x23) (by kernel_rfl) (by kernel_rfl) ?_
        refine ls_or [(), (), ()] (fun K a w => ∃ (D_3 : Nat → Value) (x27 : Value), a = ⟨#[x0, x1, x2, undef, undef, undef, (.bool false), x17, x2, x9, x9, (D 0), (D 1), x13, x13, (D_1 0), (D_1 1), x17, x1, x19, x19, (D_2 0), (D_2 1), x23, x23, (D_3 0), (D_3 1), x27, undef, undef, undef, undef, undef, undef], []⟩ ∧ At w0 w h ∧ K x27) H (fun hb H => ?_) (fun hb H => ?_) ?_
        · refine ls_move (x := x17) (by rw [hb]; kernel_rfl) (by kernel_rfl) ?_
          refine ls_p (d := some 26) (by kernel_rfl) (by rw [hb]; kernel_rfl) (p_not (by kernel_rfl) H) (fun x26 H => ?_)
          refine ls_pick_f (y := x26) (by kernel_rfl) (by rw [hb]; kernel_rfl) (by kernel_rfl) ?_
          refine ls_nil ?_
          refine then_normal ?_
          exact ⟨(fun i => ([x17, x26]).getD i undef), x26, by kernel_rfl, HA_2, H⟩
        · refine ls_skip (d := some 25) (by kernel_rfl) (by rw [hb]; kernel_rfl) ?_
          refine ls_skip (d := some 26) (by kernel_rfl) (by rw [hb]; kernel_rfl) ?_
          refine ls_pick_t (x := (.bool true)) (by kernel_rfl) (by rw [hb]; kernel_rfl) (by kernel_rfl) ?_
          refine ls_nil ?_
          refine then_normal ?_
          exact ⟨(fun i => ([undef, undef]).getD i undef), (.bool true), by kernel_rfl, HA_2, H⟩
        · rintro _ w_3 ⟨D_3, x27, rfl, HA_3, H⟩
          refine ls_nil ?_
          refine then_normal ?_
          refine fr_eq (b := ⟨#[x0, x1, x2, undef, undef, undef, (.bool false), x17, x2, x9, x9, (D 0), (D 1), x13, x13, (D_1 0), (D_1 1), x17, x1, x19, x19, (D_2 0), (D_2 1), x23, x23, (D_3 0), (D_3 1), x27, undef, undef, undef, undef, undef, undef], []⟩) (by kernel_rfl) ?_
          refine wp_if rfl H (fun H => ?_) (fun H => ?_)
          · refine wp_seq ?_
            refine lwp_list ?_
            refine ls_assign (x := (.bool false)) (by kernel_rfl) (by kernel_rfl) ?_
            refine ls_nil ?_
            refine then_normal ?_
            refine fr_eq (b := ⟨#[x0, x1, x2, undef, undef, undef, (.bool false), x17, x2, x9, x9, (D 0), (D 1), x13, x13, (D_1 0), (D_1 1), x17, x1, x19, x19, (D_2 0), (D_2 1), x23, x23, (D_3 0), (D_3 1), x27, undef, undef, undef, undef, undef, undef], []⟩) (by kernel_rfl) ?_
            refine wp_ret ?_
            refine then_ret ?_
            exact end1 (Tryd.results6) (by kernel_rfl) (by kernel_rfl) HA_3 H _ (.inr rfl)
          · refine wp_skip ?_
            refine then_normal ?_
            refine fr_eq (b := ⟨#[x0, x1, x2, undef, undef, undef, (.bool false), x17, x2, x9, x9, (D 0), (D 1), x13, x13, (D_1 0), (D_1 1), x17, x1, x19, x19, (D_2 0), (D_2 1), x23, x23, (D_3 0), (D_3 1), x27, undef, undef, undef, undef, undef, undef], []⟩) (by kernel_rfl) ?_
            refine wp_seq ?_
            refine lwp_list ?_
            refine ls_move (x := x0) (by kernel_rfl) (by kernel_rfl) ?_
            refine ls_move (x := x1) (by kernel_rfl) (by kernel_rfl) ?_
            refine ls_move (x := x2) (by kernel_rfl) (by kernel_rfl) ?_
            refine ls_p (d := some 31) (by kernel_rfl) (by kernel_rfl) (p_nil (by kernel_rfl) H) (fun x31 H => ?_)
            refine ls_p (d := some 32) (by kernel_rfl) (by kernel_rfl) (p_off Tryd.underlying24 rfl (fun w => ⟨_, Tryd.sizeOf22 w⟩) rfl (by kernel_rfl) H) (fun x32 H => ?_)
            refine ls_p (d := some 33) (by kernel_rfl) (by kernel_rfl) (p_ixa Tryd.underlying22 Tryd.sizeOf5 (by kernel_rfl) (by kernel_rfl) H) (fun x33 H => ?_)
            refine ls_fr (b := ⟨#[x0, x1, x2, undef, undef, undef, (.bool false), x17, x2, x9, x9, (D 0), (D 1), x13, x13, (D_1 0), (D_1 1), x17, x1, x19, x19, (D_2 0), (D_2 1), x23, x23, (D_3 0), (D_3 1), x27, x0, x1, x2, x31, x32, x33], []⟩) (by kernel_rfl) ?_
            refine ls_d (d := none) (by kernel_rfl) (by kernel_rfl) HA_3 (d_st Tryd.sizeOf5 (by kernel_rfl) (by kernel_rfl) H) (fun _ h w_4 H HA_4 => ?_)
            refine ls_nil ?_
            refine then_normal ?_
            refine fr_eq (b := ⟨#[x0, x1, x2, undef, undef, undef, (.bool false), x17, x2, x9, x9, (D 0), (D 1), x13, x13, (D_1 0), (D_1 1), x17, x1, x19, x19, (D_2 0), (D_2 1), x23, x23, (D_3 0), (D_3 1), x27, x0, x1, x2, x31, x32, x33], []⟩) (by kernel_rfl) ?_
            refine wp_seq ?_
            refine lwp_list ?_
            refine ls_assign (x := (.bool true)) (by kernel_rfl) (by kernel_rfl) ?_
            refine ls_nil ?_
            refine then_normal ?_
            refine fr_eq (b := ⟨#[x0, x1, x2, undef, undef, undef, (.bool true), x17, x2, x9, x9, (D 0), (D 1), x13, x13, (D_1 0), (D_1 1), x17, x1, x19, x19, (D_2 0), (D_2 1), x23, x23, (D_3 0), (D_3 1), x27, x0, x1, x2, x31, x32, x33], []⟩) (by kernel_rfl) ?_
            refine wp_ret ?_
            exact end1 (Tryd.results6) (by kernel_rfl) (by kernel_rfl) HA_4 H _ (.inr rfl)

end Go.Proofs.YtpgpbhbpamgboaaDoor
