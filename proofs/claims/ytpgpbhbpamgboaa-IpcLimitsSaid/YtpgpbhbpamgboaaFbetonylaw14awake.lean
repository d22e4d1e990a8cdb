/- The shallow reading of one function, and that the function does it. Written by a program. -/
import Derived.Test.YtpgpbhbpamgboaaFnC
set_option linter.unusedVariables false
namespace Go.Proofs.Ytpgpbhbpamgboaa
open Go Go.HW

def betonylaw14_awake_S (h : Heap) (R : Value → Heap → Prop) : Prop :=
  ipc_New_c (.int .i64 1) h fun x2 h => 
  sNeqNil x2 fun x4 =>
  sAndH x4 h (fun k_2 =>
  sSlit h #[.int .u8 0] [(0, 1, (.int .u8 7))] 5 1 fun x7 h_6 => 
  ipc_Ring_Send_c x2 (.int .i64 1) x7 h_6 fun x8 h_7 => 
  sEq x8 (.int .i64 0) fun x9 =>
  k_2 x9 h_7) fun x10 h_1 =>
  sAndH x10 h_1 (fun k_1 =>
  ipc_Ring_Send_c x2 (.int .i64 1) (.slice none 0 0) h_1 fun x13 h_5 => 
  sEq x13 (.int .i64 3) fun x14 =>
  k_1 x14 h_5) fun x15 h_2 =>
  sAndH x15 h_2 (fun k =>
  ipc_Ring_Len_c x2 h_2 fun x18 h_4 => 
  sEq x18 (.int .i64 1) fun x19 =>
  k x19 h_4) fun x20 h_3 =>
  R x20 h_3
set_option maxRecDepth 100000 in
theorem betonylaw14_awake_runs {h : Heap} {R : Value → Heap → Prop} (H : betonylaw14_awake_S  h R) : betonylaw14_awake_c  h R := by
  unfold betonylaw14_awake_S at H
  refine runs_of (b := ⟨#[undef, undef, undef, undef, undef, undef, undef, undef, undef, undef, undef, undef, undef, undef, undef, undef, undef, undef, undef, undef, undef], []⟩) Try.call18 Try.func18 rfl (by kernel_rfl) (fun w0 HA => ?_)
  refine wp_seq ?_
  refine lwp_list ?_
  refine ls_assign (x := (.bool false)) (by kernel_rfl) (by kernel_rfl) ?_
  refine ls_nil ?_
  refine then_normal ?_
  refine fr_eq (b := ⟨#[(.bool false), undef, undef, undef, undef, undef, undef, undef, undef, undef, undef, undef, undef, undef, undef, undef, undef, undef, undef, undef, undef], []⟩) (by kernel_rfl) ?_
  refine wp_seq ?_
  refine lwp_list ?_
  refine ls_d (d := some 2) (by kernel_rfl) (by kernel_rfl) HA (d_call (by kernel_rfl) (by kernel_rfl) H) (fun x2 h w H HA => ?_)
  refine ls_assign (x := x2) (by kernel_rfl) (by kernel_rfl) ?_
  refine ls_nil ?_
  refine then_normal ?_
  refine fr_eq (b := ⟨#[(.bool false), x2, x2, undef, undef, undef, undef, undef, undef, undef, undef, undef, undef, undef, undef, undef, undef, undef, undef, undef, undef], []⟩) (by kernel_rfl) ?_
  refine wp_seq ?_
  refine lwp_list ?_
  refine ls_move (x := x2) (by kernel_rfl) (by kernel_rfl) ?_
  refine ls_p (d := some 4) (by kernel_rfl) (by kernel_rfl) (p_neqNil Try.underlying35 (by kernel_rfl) (by kernel_rfl) H) (fun x4 H => ?_)
  refine ls_move (x := x4) (by kernel_rfl) (by kernel_rfl) ?_
  refine ls_andh [(), (), (), (), ()] (fun K a w => ∃ (D : Nat → Value) (x10 : Value) (h_1 : Heap), a = ⟨#[(.bool false), x2, x2, x2, x4, x4, (D 0), (D 1), (D 2), (D 3), x10, undef, undef, undef, undef, undef, undef, undef, undef, undef, undef], []⟩ ∧ At w0 w h_1 ∧ K x10 h_1) H (fun hb_2 H => ?_) (fun hb_2 H => ?_) ?_
  · refine ls_move (x := x2) (by rw [hb_2]; kernel_rfl) (by kernel_rfl) ?_
    refine ls_d (d := some 7) (by kernel_rfl) (by rw [hb_2]; kernel_rfl) HA (d_slit (zc := #[.int .u8 0]) Try.underlying37 Try.sizeOf5 (by decide) (.inr ⟨by decide, _, Try.zeroValue5, (by kernel_rfl)⟩) (by kernel_rfl) (by kernel_rfl) H) (fun x7 h_6 w_6 H HA_6 => ?_)
    refine ls_d (d := some 8) (by kernel_rfl) (by rw [hb_2]; kernel_rfl) HA_6 (d_call (by kernel_rfl) (by kernel_rfl) H) (fun x8 h_7 w_7 H HA_7 => ?_)
    refine ls_fr (b := ⟨#[(.bool false), x2, x2, x2, x4, x4, x2, x7, x8, undef, undef, undef, undef, undef, undef, undef, undef, undef, undef, undef, undef], []⟩) (by kernel_rfl) ?_
    refine ls_p (d := some 9) (by kernel_rfl) (by rw [hb_2]; kernel_rfl) (p_sEq (by kernel_rfl) (by kernel_rfl) H) (fun x9 H => ?_)
    refine ls_pick_t (x := x9) (by kernel_rfl) (by rw [hb_2]; kernel_rfl) (by kernel_rfl) ?_
    refine ls_nil ?_
    refine then_normal ?_
    exact ⟨(fun i => ([x2, x7, x8, x9]).getD i undef), x9, h_7, by kernel_rfl, HA_7, H⟩
  · refine ls_skip (d := some 6) (by kernel_rfl) (by rw [hb_2]; kernel_rfl) ?_
    refine ls_skip (d := some 7) (by kernel_rfl) (by rw [hb_2]; kernel_rfl) ?_
    refine ls_skip (d := some 8) (by kernel_rfl) (by rw [hb_2]; kernel_rfl) ?_
    refine ls_fr (b := ⟨#[(.bool false), x2, x2, x2, x4, x4, undef, undef, undef, undef, undef, undef, undef, undef, undef, undef, undef, undef, undef, undef, undef], []⟩) (by kernel_rfl) ?_
    refine ls_skip (d := some 9) (by kernel_rfl) (by rw [hb_2]; kernel_rfl) ?_
    refine ls_pick_f (y := (.bool false)) (by kernel_rfl) (by rw [hb_2]; kernel_rfl) (by kernel_rfl) ?_
    refine ls_nil ?_
    refine then_normal ?_
    exact ⟨(fun i => ([undef, undef, undef, undef]).getD i undef), (.bool false), h, by kernel_rfl, HA, H⟩
  · rintro _ w_1 ⟨D, x10, h_1, rfl, HA_1, H⟩
    refine ls_move (x := x10) (by kernel_rfl) (by kernel_rfl) ?_
    refine ls_andh [(), (), (), ()] (fun K a w => ∃ (D_1 : Nat → Value) (x15 : Value) (h_2 : Heap), a = ⟨#[(.bool false), x2, x2, x2, x4, x4, (D 0), (D 1), (D 2), (D 3), x10, x10, (D_1 0), (D_1 1), (D_1 2), x15, undef, undef, undef, undef, undef], []⟩ ∧ At w0 w h_2 ∧ K x15 h_2) H (fun hb_1 H => ?_) (fun hb_1 H => ?_) ?_
    · refine ls_move (x := x2) (by rw [hb_1]; kernel_rfl) (by kernel_rfl) ?_
      refine ls_d (d := some 13) (by kernel_rfl) (by rw [hb_1]; kernel_rfl) HA_1 (d_call (by kernel_rfl) (by kernel_rfl) H) (fun x13 h_5 w_5 H HA_5 => ?_)
      refine ls_p (d := some 14) (by kernel_rfl) (by rw [hb_1]; kernel_rfl) (p_sEq (by kernel_rfl) (by kernel_rfl) H) (fun x14 H => ?_)
      refine ls_pick_t (x := x14) (by kernel_rfl) (by rw [hb_1]; kernel_rfl) (by kernel_rfl) ?_
      refine ls_nil ?_
      refine then_normal ?_
      exact ⟨(fun i => ([x2, x13, x14]).getD i undef), x14, h_5, by kernel_rfl, HA_5, H⟩
    · refine ls_skip (d := some 12) (by kernel_rfl) (by rw [hb_1]; kernel_rfl) ?_
      refine ls_skip (d := some 13) (by kernel_rfl) (by rw [hb_1]; kernel_rfl) ?_
      refine ls_skip (d := some 14) (by kernel_rfl) (by rw [hb_1]; kernel_rfl) ?_
      refine ls_pick_f (y := (.bool false)) (by kernel_rfl) (by rw [hb_1]; kernel_rfl) (by kernel_rfl) ?_
      refine ls_nil ?_
      refine then_normal ?_
      exact ⟨(fun i => ([undef, undef, undef]).getD i undef), (.bool false), h_1, by kernel_rfl, HA_1, H⟩
    · rintro _ w_2 ⟨D_1, x15, h_2, rfl, HA_2, H⟩
      refine ls_move (x := x15) (by kernel_rfl) (by kernel_rfl) ?_
      refine ls_andh [(), (), (), ()] (fun K a w => ∃ (D_2 : Nat → Value) (x20 : Value) (h_3 : Heap), a = ⟨#[(.bool false), x2, x2, x2, x4, x4, (D 0), (D 1), (D 2), (D 3), x10, x10, (D_1 0), (D_1 1), (D_1 2), x15, x15, (D_2 0), (D_2 1), (D_2 2), x20], []⟩ ∧ At w0 w h_3 ∧ K x20 h_3) H (fun hb H => ?_) (fun hb H => ?_) ?_
      · refine ls_move (x := x2) (by rw [hb]; kernel_rfl) (by kernel_rfl) ?_
        refine ls_d (d := some 18) (by kernel_rfl) (by rw [hb]; kernel_rfl) HA_2 (d_call (by kernel_rfl) (by kernel_rfl) H) (fun x18 h_4 w_4 H HA_4 => ?_)
        refine ls_p (d := some 19) (by kernel_rfl) (by rw [hb]; kernel_rfl) (p_sEq (by kernel_rfl) (by kernel_rfl) H) (fun x19 H => ?_)
        refine ls_pick_t (x := x19) (by kernel_rfl) (by rw [hb]; kernel_rfl) (by kernel_rfl) ?_
        refine ls_nil ?_
        refine then_normal ?_
        exact ⟨(fun i => ([x2, x18, x19]).getD i undef), x19, h_4, by kernel_rfl, HA_4, H⟩
      · refine ls_skip (d := some 17) (by kernel_rfl) (by rw [hb]; kernel_rfl) ?_
        refine ls_skip (d := some 18) (by kernel_rfl) (by rw [hb]; kernel_rfl) ?_
        refine ls_skip (d := some 19) (by kernel_rfl) (by rw [hb]; kernel_rfl) ?_
        refine ls_pick_f (y := (.bool false)) (by kernel_rfl) (by rw [hb]; kernel_rfl) (by kernel_rfl) ?_
        refine ls_nil ?_
        refine then_normal ?_
        exact ⟨(fun i => ([undef, undef, undef]).getD i undef), (.bool false), h_2, by kernel_rfl, HA_2, H⟩
      · rintro _ w_3 ⟨D_2, x20, h_3, rfl, HA_3, H⟩
        refine ls_assign (x := x20) (by kernel_rfl) (by kernel_rfl) ?_
        refine ls_nil ?_
        refine then_normal ?_
        refine fr_eq (b := ⟨#[x20, x2, x2, x2, x4, x4, (D 0), (D 1), (D 2), (D 3), x10, x10, (D_1 0), (D_1 1), (D_1 2), x15, x15, (D_2 0), (D_2 1), (D_2 2), x20], []⟩) (by kernel_rfl) ?_
        refine wp_ret ?_
        exact end1 (Try.results18) (by kernel_rfl) (by kernel_rfl) HA_3 H _ (.inr rfl)

end Go.Proofs.Ytpgpbhbpamgboaa
