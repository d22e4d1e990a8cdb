/- The shallow reading of one function, and that the function does it. Written by a program. -/
import Derived.Test.YthhpieidlpjbmaaFnC
set_option linter.unusedVariables false
namespace Go.Proofs.Ythhpieidlpjbmaa
open Go Go.HW

def betonylaw19_awake_S (h : Heap) (R : Value → Heap → Prop) : Prop :=
  sSlit h #[.int .u8 0, .int .u8 0] [(0, 1, (.int .u8 97)), (1, 1, (.int .u8 10))] 5 2 fun x4 h => 
  opost_Bytes_c (.int .i64 3) (.int .i64 0) x4 h fun x5 h_1 => 
  sTup x5 0 fun x6 =>
  sTup x5 1 fun x7 =>
  sSlit h_1 #[.int .u8 0, .int .u8 0, .int .u8 0] [(0, 1, (.int .u8 97)), (1, 1, (.int .u8 13)), (2, 1, (.int .u8 10))] 5 3 fun x9 h_2 => 
  betonyref01_Same_c x6 x9 h_2 fun x10 h_3 => 
  sAnd x10 (fun k =>
  sEq x7 (.int .i64 0) fun x13 =>
  k x13) fun x14 =>
  R x14 h_3
set_option maxRecDepth 100000 in
theorem betonylaw19_awake_runs {h : Heap} {R : Value → Heap → Prop} (H : betonylaw19_awake_S  h R) : betonylaw19_awake_c  h R := by
  unfold betonylaw19_awake_S at H
  refine runs_of (b := ⟨#[undef, undef, undef, undef, undef, undef, undef, undef, undef, undef, undef, undef, undef, undef, undef], []⟩) Try.call30 Try.func30 rfl (by kernel_rfl) (fun w0 HA => ?_)
  refine wp_seq ?_
  refine lwp_list ?_
  refine ls_assign (x := (.bool false)) (by kernel_rfl) (by kernel_rfl) ?_
  refine ls_nil ?_
  refine then_normal ?_
  refine fr_eq (b := ⟨#[(.bool false), undef, undef, undef, undef, undef, undef, undef, undef, undef, undef, undef, undef, undef, undef], []⟩) (by kernel_rfl) ?_
  refine wp_seq ?_
  refine lwp_list ?_
  refine ls_d (d := some 4) (by kernel_rfl) (by kernel_rfl) HA (d_slit (zc := #[.int .u8 0]) Try.underlying56 Try.sizeOf5 (by decide) (.inr ⟨by decide, _, Try.zeroValue5, (by kernel_rfl)⟩) (by kernel_rfl) (by kernel_rfl) H) (fun x4 h w H HA => ?_)
  refine ls_d (d := some 5) (by kernel_rfl) (by kernel_rfl) HA (d_call (by kernel_rfl) (by kernel_rfl) H) (fun x5 h_1 w_1 H HA_1 => ?_)
  refine ls_move (x := x5) (by kernel_rfl) (by kernel_rfl) ?_
  refine ls_p (d := some 6) (by kernel_rfl) (by kernel_rfl) (p_tup (by kernel_rfl) H) (fun x6 H => ?_)
  refine ls_p (d := some 7) (by kernel_rfl) (by kernel_rfl) (p_tup (by kernel_rfl) H) (fun x7 H => ?_)
  refine ls_assign (x := x6) (by kernel_rfl) (by kernel_rfl) ?_
  refine ls_fr (b := ⟨#[(.bool false), x6, undef, x5, x4, x5, x6, x7, undef, undef, undef, undef, undef, undef, undef], []⟩) (by kernel_rfl) ?_
  refine ls_assign (x := x7) (by kernel_rfl) (by kernel_rfl) ?_
  refine ls_nil ?_
  refine then_normal ?_
  refine fr_eq (b := ⟨#[(.bool false), x6, x7, x5, x4, x5, x6, x7, undef, undef, undef, undef, undef, undef, undef], []⟩) (by kernel_rfl) ?_
  refine wp_seq ?_
  refine lwp_list ?_
  refine ls_move (x := x6) (by kernel_rfl) (by kernel_rfl) ?_
  refine ls_d (d := some 9) (by kernel_rfl) (by kernel_rfl) HA_1 (d_slit (zc := #[.int .u8 0]) Try.underlying56 Try.sizeOf5 (by decide) (.inr ⟨by decide, _, Try.zeroValue5, (by kernel_rfl)⟩) (by kernel_rfl) (by kernel_rfl) H) (fun x9 h_2 w_2 H HA_2 => ?_)
  refine ls_d (d := some 10) (by kernel_rfl) (by kernel_rfl) HA_2 (d_call (by kernel_rfl) (by kernel_rfl) H) (fun x10 h_3 w_3 H HA_3 => ?_)
  refine ls_move (x := x10) (by kernel_rfl) (by kernel_rfl) ?_
  refine ls_and [(), (), ()] (fun K a w => ∃ (D : Nat → Value) (x14 : Value), a = ⟨#[(.bool false), x6, x7, x5, x4, x5, x6, x7, x6, x9, x10, x10, (D 0), (D 1), x14], []⟩ ∧ At w0 w h_3 ∧ K x14) H (fun hb H => ?_) (fun hb H => ?_) ?_
  · refine ls_move (x := x7) (by rw [hb]; kernel_rfl) (by kernel_rfl) ?_
    refine ls_p (d := some 13) (by kernel_rfl) (by rw [hb]; kernel_rfl) (p_sEq (by kernel_rfl) (by kernel_rfl) H) (fun x13 H => ?_)
    refine ls_fr (b := ⟨#[(.bool false), x6, x7, x5, x4, x5, x6, x7, x6, x9, x10, x10, x7, x13, undef], []⟩) (by kernel_rfl) ?_
    refine ls_pick_t (x := x13) (by kernel_rfl) (by rw [hb]; kernel_rfl) (by kernel_rfl) ?_
    refine ls_nil ?_
    refine then_normal ?_
    exact ⟨(fun i => ([x7, x13]).getD i undef), x13, by kernel_rfl, HA_3, H⟩
  · refine ls_skip (d := some 12) (by kernel_rfl) (by rw [hb]; kernel_rfl) ?_
    refine ls_skip (d := some 13) (by kernel_rfl) (by rw [hb]; kernel_rfl) ?_
    refine ls_fr (b := ⟨#[(.bool false), x6, x7, x5, x4, x5, x6, x7, x6, x9, x10, x10, undef, undef, undef], []⟩) (by kernel_rfl) ?_
    refine ls_pick_f (y := (.bool false)) (by kernel_rfl) (by rw [hb]; kernel_rfl) (by kernel_rfl) ?_
    refine ls_nil ?_
    refine then_normal ?_
    exact ⟨(fun i => ([undef, undef]).getD i undef), (.bool false), by kernel_rfl, HA_3, H⟩
  · rintro _ w_4 ⟨D, x14, rfl, HA_4, H⟩
    refine ls_assign (x := x14) (by kernel_rfl) (by kernel_rfl) ?_
    refine ls_nil ?_
    refine then_normal ?_
    refine fr_eq (b := ⟨#[x14, x6, x7, x5, x4, x5, x6, x7, x6, x9, x10, x10, (D 0), (D 1), x14], []⟩) (by kernel_rfl) ?_
    refine wp_ret ?_
    exact end1 (Try.results30) (by kernel_rfl) (by kernel_rfl) HA_4 H _ (.inr rfl)

end Go.Proofs.Ythhpieidlpjbmaa
