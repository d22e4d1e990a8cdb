/- The shallow reading of one function, and that the function does it. Written by a program. -/
import Derived.Test.YthhpieidlpjbmaaFnC
set_option linter.unusedVariables false
namespace Go.Proofs.Ythhpieidlpjbmaa
open Go Go.HW

def rect_of_S (x0 x1 x2 x3 : Value) (h : Heap) (R : Value → Heap → Prop) : Prop :=
  sNew h #[.int .i64 0, .int .i64 0, .int .i64 0, .int .i64 0] 23 fun x8 h => 
  sLe x2 x0 fun x11 =>
  sOr x11 (fun k =>
  sLe x3 x1 fun x15 =>
  k x15) fun x16 =>
  sIf x16 (sBuild #[.int .i64 0, .int .i64 0, .int .i64 0, .int .i64 0] [] fun x17 =>
  sStN h x8 x17 4 fun h_1 => 
  sLdN h_1 x8 4 fun r8 =>
  R r8 h_1) (sSub .i64 x2 x0 fun x22 =>
  sSub .i64 x3 x1 fun x25 =>
  sBuild #[.int .i64 0, .int .i64 0, .int .i64 0, .int .i64 0] [(0, 1, x0), (1, 1, x1), (2, 1, x22), (3, 1, x25)] fun x26 =>
  sStN h x8 x26 4 fun h_2 => 
  sLdN h_2 x8 4 fun r8_1 =>
  R r8_1 h_2)
set_option maxRecDepth 100000 in
theorem rect_of_runs {x0 x1 x2 x3 : Value} {h : Heap} {R : Value → Heap → Prop} (H : rect_of_S x0 x1 x2 x3 h R) : rect_of_c x0 x1 x2 x3 h R := by
  unfold rect_of_S at H
  refine runs_of (b := ⟨#[x0, x1, x2, x3, undef, undef, undef, undef, undef, undef, undef, undef, undef, undef, undef, undef, undef, undef, undef, undef, undef, undef, undef, undef, undef, undef, undef], []⟩) Try.call52 Try.func52 rfl (by kernel_rfl) (fun w0 HA => ?_)
  refine wp_seq ?_
  refine lwp_list ?_
  refine ls_d (d := some 8) (by kernel_rfl) (by kernel_rfl) HA (d_alloc Try.zeroValue23 H) (fun x8 h w H HA => ?_)
  refine ls_nil ?_
  refine then_normal ?_
  refine fr_eq (b := ⟨#[x0, x1, x2, x3, undef, undef, undef, undef, x8, undef, undef, undef, undef, undef, undef, undef, undef, undef, undef, undef, undef, undef, undef, undef, undef, undef, undef], []⟩) (by kernel_rfl) ?_
  refine wp_seq ?_
  refine wp_seq ?_
  refine lwp_list ?_
  refine ls_move (x := x2) (by kernel_rfl) (by kernel_rfl) ?_
  refine ls_move (x := x0) (by kernel_rfl) (by kernel_rfl) ?_
  refine ls_p (d := some 11) (by kernel_rfl) (by kernel_rfl) (p_sLe (by kernel_rfl) (by kernel_rfl) H) (fun x11 H => ?_)
  refine ls_move (x := x11) (by kernel_rfl) (by kernel_rfl) ?_
  refine ls_or [(), (), (), ()] (fun K a w => ∃ (D : Nat → Value) (x16 : Value), a = ⟨#[x0, x1, x2, x3, undef, undef, undef, undef, x8, x2, x0, x11, x11, (D 0), (D 1), (D 2), x16, undef, undef, undef, undef, undef, undef, undef, undef, undef, undef], []⟩ ∧ At w0 w h ∧ K x16) H (fun hb H => ?_) (fun hb H => ?_) ?_
  · refine ls_move (x := x3) (by rw [hb]; kernel_rfl) (by kernel_rfl) ?_
    refine ls_move (x := x1) (by rw [hb]; kernel_rfl) (by kernel_rfl) ?_
    refine ls_fr (b := ⟨#[x0, x1, x2, x3, undef, undef, undef, undef, x8, x2, x0, x11, x11, x3, x1, undef, undef, undef, undef, undef, undef, undef, undef, undef, undef, undef, undef], []⟩) (by kernel_rfl) ?_
    refine ls_p (d := some 15) (by kernel_rfl) (by rw [hb]; kernel_rfl) (p_sLe (by kernel_rfl) (by kernel_rfl) H) (fun x15 H => ?_)
    refine ls_pick_f (y := x15) (by kernel_rfl) (by rw [hb]; kernel_rfl) (by kernel_rfl) ?_
    refine ls_nil ?_
    refine then_normal ?_
    exact ⟨(fun i => ([x3, x1, x15]).getD i undef), x15, by kernel_rfl, HA, H⟩
  · refine ls_skip (d := some 13) (by kernel_rfl) (by rw [hb]; kernel_rfl) ?_
    refine ls_skip (d := some 14) (by kernel_rfl) (by rw [hb]; kernel_rfl) ?_
    refine ls_fr (b := ⟨#[x0, x1, x2, x3, undef, undef, undef, undef, x8, x2, x0, x11, x11, undef, undef, undef, undef, undef, undef, undef, undef, undef, undef, undef, undef, undef, undef], []⟩) (by kernel_rfl) ?_
    refine ls_skip (d := some 15) (by kernel_rfl) (by rw [hb]; kernel_rfl) ?_
    refine ls_pick_t (x := (.bool true)) (by kernel_rfl) (by rw [hb]; kernel_rfl) (by kernel_rfl) ?_
    refine ls_nil ?_
    refine then_normal ?_
    exact ⟨(fun i => ([undef, undef, undef]).getD i undef), (.bool true), by kernel_rfl, HA, H⟩
  · rintro _ w_1 ⟨D, x16, rfl, HA_1, H⟩
    refine ls_nil ?_
    refine then_normal ?_
    refine fr_eq (b := ⟨#[x0, x1, x2, x3, undef, undef, undef, undef, x8, x2, x0, x11, x11, (D 0), (D 1), (D 2), x16, undef, undef, undef, undef, undef, undef, undef, undef, undef, undef], []⟩) (by kernel_rfl) ?_
    refine wp_if rfl H (fun H => ?_) (fun H => ?_)
    · refine wp_seq ?_
      refine lwp_list ?_
      refine ls_p (d := some 17) (by kernel_rfl) (by kernel_rfl) (p_lit (pl := [(0, 1), (1, 1), (2, 1), (3, 1)]) Try.zeroValue23 Try.underlying23 ⟨(by kernel_rfl), Try.sizeOf3, (by kernel_rfl), Try.sizeOf3, (by kernel_rfl), Try.sizeOf3, (by kernel_rfl), Try.sizeOf3, trivial⟩ (by kernel_rfl) (by kernel_rfl) H) (fun x17 H => ?_)
      refine ls_d (d := none) (by kernel_rfl) (by kernel_rfl) HA_1 (d_stn Try.sizeOf23 (by kernel_rfl) (by kernel_rfl) H) (fun _ h_1 w_2 H HA_2 => ?_)
      refine ls_nil ?_
      refine then_normal ?_
      refine fr_eq (b := ⟨#[x0, x1, x2, x3, undef, undef, undef, undef, x8, x2, x0, x11, x11, (D 0), (D 1), (D 2), x16, x17, undef, undef, undef, undef, undef, undef, undef, undef, undef], []⟩) (by kernel_rfl) ?_
      refine wp_ret ?_
      refine then_ret ?_
      obtain ⟨r8, hr8, H⟩ := ld_n Try.isAgg23 Try.sizeOf23 H
      exact endR (vs := [r8]) (Try.results52) (by kernel_rfl) ⟨⟨_, (by kernel_rfl), hr8⟩, trivial⟩ HA_2 H _ (.inr rfl)
    · refine wp_skip ?_
      refine then_normal ?_
      refine fr_eq (b := ⟨#[x0, x1, x2, x3, undef, undef, undef, undef, x8, x2, x0, x11, x11, (D 0), (D 1), (D 2), x16, undef, undef, undef, undef, undef, undef, undef, undef, undef, undef], []⟩) (by kernel_rfl) ?_
      refine wp_seq ?_
      refine lwp_list ?_
      refine ls_move (x := x0) (by kernel_rfl) (by kernel_rfl) ?_
      refine ls_move (x := x1) (by kernel_rfl) (by kernel_rfl) ?_
      refine ls_move (x := x2) (by kernel_rfl) (by kernel_rfl) ?_
      refine ls_move (x := x0) (by kernel_rfl) (by kernel_rfl) ?_
      refine ls_p (d := some 22) (by kernel_rfl) (by kernel_rfl) (p_sub (by kernel_rfl) (by kernel_rfl) H) (fun x22 H => ?_)
      refine ls_move (x := x3) (by kernel_rfl) (by kernel_rfl) ?_
      refine ls_fr (b := ⟨#[x0, x1, x2, x3, undef, undef, undef, undef, x8, x2, x0, x11, x11, (D 0), (D 1), (D 2), x16, undef, x0, x1, x2, x0, x22, x3, undef, undef, undef], []⟩) (by kernel_rfl) ?_
      refine ls_move (x := x1) (by kernel_rfl) (by kernel_rfl) ?_
      refine ls_p (d := some 25) (by kernel_rfl) (by kernel_rfl) (p_sub (by kernel_rfl) (by kernel_rfl) H) (fun x25 H => ?_)
      refine ls_p (d := some 26) (by kernel_rfl) (by kernel_rfl) (p_lit (pl := [(0, 1), (1, 1), (2, 1), (3, 1)]) Try.zeroValue23 Try.underlying23 ⟨(by kernel_rfl), Try.sizeOf3, (by kernel_rfl), Try.sizeOf3, (by kernel_rfl), Try.sizeOf3, (by kernel_rfl), Try.sizeOf3, trivial⟩ (by kernel_rfl) (by kernel_rfl) H) (fun x26 H => ?_)
      refine ls_d (d := none) (by kernel_rfl) (by kernel_rfl) HA_1 (d_stn Try.sizeOf23 (by kernel_rfl) (by kernel_rfl) H) (fun _ h_2 w_3 H HA_3 => ?_)
      refine ls_nil ?_
      refine then_normal ?_
      refine fr_eq (b := ⟨#[x0, x1, x2, x3, undef, undef, undef, undef, x8, x2, x0, x11, x11, (D 0), (D 1), (D 2), x16, undef, x0, x1, x2, x0, x22, x3, x1, x25, x26], []⟩) (by kernel_rfl) ?_
      refine wp_ret ?_
      obtain ⟨r8_1, hr8_1, H⟩ := ld_n Try.isAgg23 Try.sizeOf23 H
      exact endR (vs := [r8_1]) (Try.results52) (by kernel_rfl) ⟨⟨_, (by kernel_rfl), hr8_1⟩, trivial⟩ HA_3 H _ (.inr rfl)

end Go.Proofs.Ythhpieidlpjbmaa
