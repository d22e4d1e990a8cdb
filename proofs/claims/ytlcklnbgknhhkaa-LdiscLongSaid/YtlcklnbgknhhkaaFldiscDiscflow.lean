/- The shallow reading of one function, and that the function does it. Written by a program. -/
import Derived.Test.YtlcklnbgknhhkaaFnC
set_option linter.unusedVariables false
namespace Go.Proofs.Ytlcklnbgknhhkaa
open Go Go.HW

def ldisc_Disc_flow_j1 (R : Value → Heap → Prop) (h_6 : Heap) : Prop :=
  R (.bool false) h_6
def ldisc_Disc_flow_S (x0 x1 : Value) (h : Heap) (R : Value → Heap → Prop) : Prop :=
  ldisc_Disc_in_c x0 (.int .i64 16) h fun x7 h => 
  sNot x7 fun x8 =>
  sIf x8 (R (.bool false) h) (ldisc_Disc_is_c x0 (.int .i64 11) x1 h fun x12 h_1 => 
  sIf x12 (sNil x0 fun x14 =>
  sOff x14 20 fun x15 =>
  sSt h_1 x15 (.bool true) fun h_2 => 
  R (.bool true) h_2) (ldisc_Disc_is_c x0 (.int .i64 10) x1 h_1 fun x19 h_3 => 
  sIf x19 (sNil x0 fun x21 =>
  sOff x21 20 fun x22 =>
  sSt h_3 x22 (.bool false) fun h_4 => 
  R (.bool true) h_4) (ldisc_Disc_in_c x0 (.int .i64 32) h_3 fun x24 h_5 => 
  sIf x24 (sNil x0 fun x26 =>
  sOff x26 20 fun x27 =>
  sSt h_5 x27 (.bool false) fun h_7 => 
  ldisc_Disc_flow_j1 R h_7) (ldisc_Disc_flow_j1 R h_5))))
set_option maxRecDepth 100000 in
theorem ldisc_Disc_flow_runs {x0 x1 : Value} {h : Heap} {R : Value → Heap → Prop} (H : ldisc_Disc_flow_S x0 x1 h R) : ldisc_Disc_flow_c x0 x1 h R := by
  unfold ldisc_Disc_flow_S at H
  refine runs_of (b := ⟨#[x0, x1, undef, undef, undef, undef, undef, undef, undef, undef, undef, undef, undef, undef, undef, undef, undef, undef, undef, undef, undef, undef, undef, undef, undef, undef, undef, undef], []⟩) Try.call64 Try.func64 rfl (by kernel_rfl) (fun w0 HA => ?_)
  refine wp_seq ?_
  refine lwp_list ?_
  refine ls_assign (x := (.bool false)) (by kernel_rfl) (by kernel_rfl) ?_
  refine ls_nil ?_
  refine then_normal ?_
  refine fr_eq (b := ⟨#[x0, x1, undef, undef, (.bool false), undef, undef, undef, undef, undef, undef, undef, undef, undef, undef, undef, undef, undef, undef, undef, undef, undef, undef, undef, undef, undef, undef, undef], []⟩) (by kernel_rfl) ?_
  refine wp_seq ?_
  refine wp_block ?_
  refine wp_seq ?_
  refine lwp_list ?_
  refine ls_move (x := x0) (by kernel_rfl) (by kernel_rfl) ?_
  refine ls_d (d := some 7) (by kernel_rfl) (by kernel_rfl) HA (d_call (by kernel_rfl) (by kernel_rfl) H) (fun x7 h w H HA => ?_)
  refine ls_p (d := some 8) (by kernel_rfl) (by kernel_rfl) (p_not (by kernel_rfl) H) (fun x8 H => ?_)
  refine ls_assign (x := x8) (by kernel_rfl) (by kernel_rfl) ?_
  refine ls_nil ?_
  refine then_normal ?_
  refine fr_eq (b := ⟨#[x0, x1, undef, undef, (.bool false), x8, x0, x7, x8, undef, undef, undef, undef, undef, undef, undef, undef, undef, undef, undef, undef, undef, undef, undef, undef, undef, undef, undef], []⟩) (by kernel_rfl) ?_
  refine wp_if rfl H (fun H => ?_) (fun H => ?_)
  · refine wp_seq ?_
    refine lwp_list ?_
    refine ls_assign (x := (.bool false)) (by kernel_rfl) (by kernel_rfl) ?_
    refine ls_nil ?_
    refine then_normal ?_
    refine fr_eq (b := ⟨#[x0, x1, undef, undef, (.bool false), x8, x0, x7, x8, undef, undef, undef, undef, undef, undef, undef, undef, undef, undef, undef, undef, undef, undef, undef, undef, undef, undef, undef], []⟩) (by kernel_rfl) ?_
    refine wp_ret ?_
    refine block_ret ?_
    refine then_ret ?_
    exact end1 (Try.results64) (by kernel_rfl) (by kernel_rfl) HA H _ (.inr rfl)
  · refine wp_seq ?_
    refine lwp_list ?_
    refine ls_move (x := x0) (by kernel_rfl) (by kernel_rfl) ?_
    refine ls_move (x := x1) (by kernel_rfl) (by kernel_rfl) ?_
    refine ls_d (d := some 12) (by kernel_rfl) (by kernel_rfl) HA (d_call (by kernel_rfl) (by kernel_rfl) H) (fun x12 h_1 w_1 H HA_1 => ?_)
    refine ls_assign (x := x12) (by kernel_rfl) (by kernel_rfl) ?_
    refine ls_nil ?_
    refine then_normal ?_
    refine fr_eq (b := ⟨#[x0, x1, undef, undef, (.bool false), x8, x0, x7, x8, x12, x0, x1, x12, undef, undef, undef, undef, undef, undef, undef, undef, undef, undef, undef, undef, undef, undef, undef], []⟩) (by kernel_rfl) ?_
    refine wp_if rfl H (fun H => ?_) (fun H => ?_)
    · refine wp_seq ?_
      refine lwp_list ?_
      refine ls_move (x := x0) (by kernel_rfl) (by kernel_rfl) ?_
      refine ls_p (d := some 14) (by kernel_rfl) (by kernel_rfl) (p_nil (by kernel_rfl) H) (fun x14 H => ?_)
      refine ls_p (d := some 15) (by kernel_rfl) (by kernel_rfl) (p_off Try.underlying72 rfl (fun w => ⟨_, Try.sizeOf4 w⟩) rfl (by kernel_rfl) H) (fun x15 H => ?_)
      refine ls_d (d := none) (by kernel_rfl) (by kernel_rfl) HA_1 (d_st Try.sizeOf4 (by kernel_rfl) (by kernel_rfl) H) (fun _ h_2 w_2 H HA_2 => ?_)
      refine ls_nil ?_
      refine then_normal ?_
      refine fr_eq (b := ⟨#[x0, x1, undef, undef, (.bool false), x8, x0, x7, x8, x12, x0, x1, x12, x0, x14, x15, undef, undef, undef, undef, undef, undef, undef, undef, undef, undef, undef, undef], []⟩) (by kernel_rfl) ?_
      refine wp_seq ?_
      refine lwp_list ?_
      refine ls_assign (x := (.bool true)) (by kernel_rfl) (by kernel_rfl) ?_
      refine ls_nil ?_
      refine then_normal ?_
      refine fr_eq (b := ⟨#[x0, x1, undef, undef, (.bool true), x8, x0, x7, x8, x12, x0, x1, x12, x0, x14, x15, undef, undef, undef, undef, undef, undef, undef, undef, undef, undef, undef, undef], []⟩) (by kernel_rfl) ?_
      refine wp_ret ?_
      refine block_ret ?_
      refine then_ret ?_
      exact end1 (Try.results64) (by kernel_rfl) (by kernel_rfl) HA_2 H _ (.inr rfl)
    · refine wp_seq ?_
      refine lwp_list ?_
      refine ls_move (x := x0) (by kernel_rfl) (by kernel_rfl) ?_
      refine ls_move (x := x1) (by kernel_rfl) (by kernel_rfl) ?_
      refine ls_d (d := some 19) (by kernel_rfl) (by kernel_rfl) HA_1 (d_call (by kernel_rfl) (by kernel_rfl) H) (fun x19 h_3 w_3 H HA_3 => ?_)
      refine ls_assign (x := x19) (by kernel_rfl) (by kernel_rfl) ?_
      refine ls_nil ?_
      refine then_normal ?_
      refine fr_eq (b := ⟨#[x0, x1, undef, undef, (.bool false), x8, x0, x7, x8, x12, x0, x1, x12, undef, undef, undef, x19, x0, x1, x19, undef, undef, undef, undef, undef, undef, undef, undef], []⟩) (by kernel_rfl) ?_
      refine wp_if rfl H (fun H => ?_) (fun H => ?_)
      · refine wp_seq ?_
        refine lwp_list ?_
        refine ls_move (x := x0) (by kernel_rfl) (by kernel_rfl) ?_
        refine ls_p (d := some 21) (by kernel_rfl) (by kernel_rfl) (p_nil (by kernel_rfl) H) (fun x21 H => ?_)
        refine ls_p (d := some 22) (by kernel_rfl) (by kernel_rfl) (p_off Try.underlying72 rfl (fun w => ⟨_, Try.sizeOf4 w⟩) rfl (by kernel_rfl) H) (fun x22 H => ?_)
        refine ls_d (d := none) (by kernel_rfl) (by kernel_rfl) HA_3 (d_st Try.sizeOf4 (by kernel_rfl) (by kernel_rfl) H) (fun _ h_4 w_4 H HA_4 => ?_)
        refine ls_nil ?_
        refine then_normal ?_
        refine fr_eq (b := ⟨#[x0, x1, undef, undef, (.bool false), x8, x0, x7, x8, x12, x0, x1, x12, undef, undef, undef, x19, x0, x1, x19, x0, x21, x22, undef, undef, undef, undef, undef], []⟩) (by kernel_rfl) ?_
        refine wp_seq ?_
        refine lwp_list ?_
        refine ls_assign (x := (.bool true)) (by kernel_rfl) (by kernel_rfl) ?_
        refine ls_nil ?_
        refine then_normal ?_
        refine fr_eq (b := ⟨#[x0, x1, undef, undef, (.bool true), x8, x0, x7, x8, x12, x0, x1, x12, undef, undef, undef, x19, x0, x1, x19, x0, x21, x22, undef, undef, undef, undef, undef], []⟩) (by kernel_rfl) ?_
        refine wp_ret ?_
        refine block_ret ?_
        refine then_ret ?_
        exact end1 (Try.results64) (by kernel_rfl) (by kernel_rfl) HA_4 H _ (.inr rfl)
      · refine wp_skip ?_
        refine block_normal ?_
        refine then_normal ?_
        refine fr_eq (b := ⟨#[x0, x1, undef, undef, (.bool false), x8, x0, x7, x8, x12, x0, x1, x12, undef, undef, undef, x19, x0, x1, x19, undef, undef, undef, undef, undef, undef, undef, undef], []⟩) (by kernel_rfl) ?_
        refine wp_seq ?_
        refine wp_seq ?_
        refine lwp_list ?_
        refine ls_move (x := x0) (by kernel_rfl) (by kernel_rfl) ?_
        refine ls_d (d := some 24) (by kernel_rfl) (by kernel_rfl) HA_3 (d_call (by kernel_rfl) (by kernel_rfl) H) (fun x24 h_5 w_5 H HA_5 => ?_)
        refine ls_nil ?_
        refine then_normal ?_
        refine fr_eq (b := ⟨#[x0, x1, undef, undef, (.bool false), x8, x0, x7, x8, x12, x0, x1, x12, undef, undef, undef, x19, x0, x1, x19, undef, undef, undef, x0, x24, undef, undef, undef], []⟩) (by kernel_rfl) ?_
        refine wp_join (fun a w => ∃ (D : Nat → Value) (h_6 : Heap), a = ⟨#[x0, x1, undef, undef, (.bool false), x8, x0, x7, x8, x12, x0, x1, x12, undef, undef, undef, x19, x0, x1, x19, undef, undef, undef, x0, x24, (D 0), (D 1), (D 2)], []⟩ ∧ At w0 w h_6 ∧ ldisc_Disc_flow_j1 R h_6) ?_ ?_
        · refine wp_if rfl H (fun H => ?_) (fun H => ?_)
          · refine lwp_list ?_
            refine ls_move (x := x0) (by kernel_rfl) (by kernel_rfl) ?_
            refine ls_p (d := some 26) (by kernel_rfl) (by kernel_rfl) (p_nil (by kernel_rfl) H) (fun x26 H => ?_)
            refine ls_p (d := some 27) (by kernel_rfl) (by kernel_rfl) (p_off Try.underlying72 rfl (fun w => ⟨_, Try.sizeOf4 w⟩) rfl (by kernel_rfl) H) (fun x27 H => ?_)
            refine ls_d (d := none) (by kernel_rfl) (by kernel_rfl) HA_5 (d_st Try.sizeOf4 (by kernel_rfl) (by kernel_rfl) H) (fun _ h_7 w_7 H HA_7 => ?_)
            refine ls_nil ?_
            exact ⟨(fun i => ([x0, x26, x27]).getD i undef), h_7, by kernel_rfl, HA_7, H⟩
          · refine wp_skip ?_
            exact ⟨(fun i => ([undef, undef, undef]).getD i undef), h_5, by kernel_rfl, HA_5, H⟩
        · rintro _ w_6 ⟨D, h_6, rfl, HA_6, H⟩
          unfold ldisc_Disc_flow_j1 at H
          refine then_normal ?_
          refine fr_eq (b := ⟨#[x0, x1, undef, undef, (.bool false), x8, x0, x7, x8, x12, x0, x1, x12, undef, undef, undef, x19, x0, x1, x19, undef, undef, undef, x0, x24, (D 0), (D 1), (D 2)], []⟩) (by kernel_rfl) ?_
          refine wp_seq ?_
          refine lwp_list ?_
          refine ls_assign (x := (.bool false)) (by kernel_rfl) (by kernel_rfl) ?_
          refine ls_nil ?_
          refine then_normal ?_
          refine fr_eq (b := ⟨#[x0, x1, undef, undef, (.bool false), x8, x0, x7, x8, x12, x0, x1, x12, undef, undef, undef, x19, x0, x1, x19, undef, undef, undef, x0, x24, (D 0), (D 1), (D 2)], []⟩) (by kernel_rfl) ?_
          refine wp_ret ?_
          exact end1 (Try.results64) (by kernel_rfl) (by kernel_rfl) HA_6 H _ (.inr rfl)

end Go.Proofs.Ytlcklnbgknhhkaa
