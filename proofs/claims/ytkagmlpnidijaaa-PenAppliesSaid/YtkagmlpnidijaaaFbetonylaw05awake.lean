/- The shallow reading of one function, and that the function does it. Written by a program. -/
import Derived.Test.YtkagmlpnidijaaaFnC
set_option linter.unusedVariables false
namespace Go.Proofs.Ytkagmlpnidijaaa
open Go Go.HW

def betonylaw05_awake_S (h : Heap) (R : Value → Heap → Prop) : Prop :=
  sBuild #[.int .i64 0, .int .i64 0, .int .i64 0] [] fun x1 =>
  sSlit h #[.int .i64 0, .int .i64 0, .int .i64 0, .int .i64 0] [(0, 1, (.int .i64 1)), (1, 1, (.int .i64 38)), (2, 1, (.int .i64 5)), (3, 1, (.int .i64 9))] 3 4 fun x2 h => 
  pen_Apply_c x1 x2 h fun x3 h_1 => 
  sBuild #[.int .i64 0, .int .i64 0, .int .i64 0] [(0, 1, (.int .i64 10)), (2, 1, (.int .i64 1))] fun x4 =>
  sEqlAgg x3 x4 [some .i64, some .i64, some .i64] fun x5 =>
  sAndH x5 h_1 (fun k =>
  sBuild #[.int .i64 0, .int .i64 0, .int .i64 0] [] fun x7 =>
  pen_Right_c x7 h_1 fun x8 h_3 => 
  k x8 h_3) fun x9 h_2 =>
  R x9 h_2
set_option maxRecDepth 100000 in
theorem betonylaw05_awake_runs {h : Heap} {R : Value → Heap → Prop} (H : betonylaw05_awake_S  h R) : betonylaw05_awake_c  h R := by
  unfold betonylaw05_awake_S at H
  refine runs_of (b := ⟨#[undef, undef, undef, undef, undef, undef, undef, undef, undef, undef], []⟩) Try.call16 Try.func16 rfl (by kernel_rfl) (fun w0 HA => ?_)
  refine wp_seq ?_
  refine lwp_list ?_
  refine ls_assign (x := (.bool false)) (by kernel_rfl) (by kernel_rfl) ?_
  refine ls_nil ?_
  refine then_normal ?_
  refine fr_eq (b := ⟨#[(.bool false), undef, undef, undef, undef, undef, undef, undef, undef, undef], []⟩) (by kernel_rfl) ?_
  refine wp_seq ?_
  refine lwp_list ?_
  refine ls_p (d := some 1) (by kernel_rfl) (by kernel_rfl) (p_lit (pl := [(0, 1), (1, 1), (2, 1)]) Try.zeroValue23 Try.underlying23 ⟨(by kernel_rfl), Try.sizeOf3, (by kernel_rfl), Try.sizeOf3, (by kernel_rfl), Try.sizeOf3, trivial⟩ (by kernel_rfl) (by kernel_rfl) H) (fun x1 H => ?_)
  refine ls_d (d := some 2) (by kernel_rfl) (by kernel_rfl) HA (d_slit (zc := #[.int .i64 0]) Try.underlying24 Try.sizeOf3 (by decide) (.inr ⟨by decide, _, Try.zeroValue3, (by kernel_rfl)⟩) (by kernel_rfl) (by kernel_rfl) H) (fun x2 h w H HA => ?_)
  refine ls_d (d := some 3) (by kernel_rfl) (by kernel_rfl) HA (d_call (by kernel_rfl) (by kernel_rfl) H) (fun x3 h_1 w_1 H HA_1 => ?_)
  refine ls_p (d := some 4) (by kernel_rfl) (by kernel_rfl) (p_lit (pl := [(0, 1), (1, 1), (2, 1)]) Try.zeroValue23 Try.underlying23 ⟨(by kernel_rfl), Try.sizeOf3, (by kernel_rfl), Try.sizeOf3, (by kernel_rfl), Try.sizeOf3, trivial⟩ (by kernel_rfl) (by kernel_rfl) H) (fun x4 H => ?_)
  refine ls_p (d := some 5) (by kernel_rfl) (by kernel_rfl) (p_eqlAgg (eqT_23) (by kernel_rfl) (by kernel_rfl) H) (fun x5 H => ?_)
  refine ls_move (x := x5) (by kernel_rfl) (by kernel_rfl) ?_
  refine ls_andh [(), (), ()] (fun K a w => ∃ (D : Nat → Value) (x9 : Value) (h_2 : Heap), a = ⟨#[(.bool false), x1, x2, x3, x4, x5, x5, (D 0), (D 1), x9], []⟩ ∧ At w0 w h_2 ∧ K x9 h_2) H (fun hb H => ?_) (fun hb H => ?_) ?_
  · refine ls_p (d := some 7) (by kernel_rfl) (by rw [hb]; kernel_rfl) (p_lit (pl := [(0, 1), (1, 1), (2, 1)]) Try.zeroValue23 Try.underlying23 ⟨(by kernel_rfl), Try.sizeOf3, (by kernel_rfl), Try.sizeOf3, (by kernel_rfl), Try.sizeOf3, trivial⟩ (by kernel_rfl) (by kernel_rfl) H) (fun x7 H => ?_)
    refine ls_d (d := some 8) (by kernel_rfl) (by rw [hb]; kernel_rfl) HA_1 (d_call (by kernel_rfl) (by kernel_rfl) H) (fun x8 h_3 w_3 H HA_3 => ?_)
    refine ls_pick_t (x := x8) (by kernel_rfl) (by rw [hb]; kernel_rfl) (by kernel_rfl) ?_
    refine ls_nil ?_
    refine then_normal ?_
    exact ⟨(fun i => ([x7, x8]).getD i undef), x8, h_3, by kernel_rfl, HA_3, H⟩
  · refine ls_skip (d := some 7) (by kernel_rfl) (by rw [hb]; kernel_rfl) ?_
    refine ls_skip (d := some 8) (by kernel_rfl) (by rw [hb]; kernel_rfl) ?_
    refine ls_pick_f (y := (.bool false)) (by kernel_rfl) (by rw [hb]; kernel_rfl) (by kernel_rfl) ?_
    refine ls_nil ?_
    refine then_normal ?_
    exact ⟨(fun i => ([undef, undef]).getD i undef), (.bool false), h_1, by kernel_rfl, HA_1, H⟩
  · rintro _ w_2 ⟨D, x9, h_2, rfl, HA_2, H⟩
    refine ls_assign (x := x9) (by kernel_rfl) (by kernel_rfl) ?_
    refine ls_nil ?_
    refine then_normal ?_
    refine fr_eq (b := ⟨#[x9, x1, x2, x3, x4, x5, x5, (D 0), (D 1), x9], []⟩) (by kernel_rfl) ?_
    refine wp_ret ?_
    exact end1 (Try.results16) (by kernel_rfl) (by kernel_rfl) HA_2 H _ (.inr rfl)

end Go.Proofs.Ytkagmlpnidijaaa
