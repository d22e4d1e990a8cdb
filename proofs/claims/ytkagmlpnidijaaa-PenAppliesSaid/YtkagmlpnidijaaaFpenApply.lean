/- The shallow reading of one function, and that the function does it. Written by a program. -/
import Derived.Test.YtkagmlpnidijaaaFnC
set_option linter.unusedVariables false
namespace Go.Proofs.Ytkagmlpnidijaaa
open Go Go.HW

def pen_Apply_j2 (next : Value → Heap → Prop) (x5_1 : Value) (h_4 : Heap) : Prop :=
  sAdd .i64 x5_1 (.int .i64 1) fun x17 =>
  next x17 h_4
def pen_Apply_j3 (next : Value → Heap → Prop) (x5 x43 : Value) (h_9 : Heap) : Prop :=
  sAdd .i64 x5 x43 fun x58 =>
  pen_Apply_j2 next x58 h_9
def pen_Apply_l1 (R : Value → Heap → Prop) (x1 x2 x4 : Value) (next : Value → Heap → Prop) (x5 : Value) (h_3 : Heap) : Prop :=
  sLen x1 fun x14 =>
  sLt x5 x14 fun x15 =>
  sIf x15 (sIxS x1 x5 1 fun x20 =>
  sLd h_3 x20 fun x21 =>
  sNe x21 (.int .i64 38) fun x22 =>
  sAnd x22 (fun k =>
  sIxS x1 x5 1 fun x26 =>
  sLd h_3 x26 fun x27 =>
  sNe x27 (.int .i64 48) fun x28 =>
  k x28) fun x29 =>
  sIf x29 (sLdN h_3 x2 3 fun x30 =>
  sIxS x1 x5 1 fun x33 =>
  sLd h_3 x33 fun x34 =>
  pen_one_c x30 x34 h_3 fun x35 h_5 => 
  sStN h_5 x2 x35 3 fun h_6 => 
  pen_Apply_j2 next x5 h_6) (sAdd .i64 x5 (.int .i64 1) fun x39 =>
  sSl x1 (some x39) none 1 fun x40 =>
  pen_colour_c x40 h_3 fun x41 h_7 => 
  sTup x41 0 fun x42 =>
  sTup x41 1 fun x43 =>
  sEq x43 (.int .i64 0) fun x45 =>
  sIf x45 (sLdN h_7 x2 3 fun x46 =>
  sStN h_7 x4 x46 3 fun h_8 => 
  sLdN h_8 x4 3 fun r4_1 =>
  R r4_1 h_8) (sIxS x1 x5 1 fun x49 =>
  sLd h_7 x49 fun x50 =>
  sEq x50 (.int .i64 38) fun x51 =>
  sIf x51 (sOff x2 0 fun x53 =>
  sSt h_7 x53 x42 fun h_10 => 
  pen_Apply_j3 next x5 x43 h_10) (sOff x2 1 fun x55 =>
  sSt h_7 x55 x42 fun h_11 => 
  pen_Apply_j3 next x5 x43 h_11)))) (sLdN h_3 x2 3 fun x59 =>
  sStN h_3 x4 x59 3 fun h_12 => 
  sLdN h_12 x4 3 fun r4_2 =>
  R r4_2 h_12)
def pen_Apply_S (x0 x1 : Value) (h : Heap) (R : Value → Heap → Prop) : Prop :=
  sBox h x0 23 fun x2 h => 
  sNew h #[.int .i64 0, .int .i64 0, .int .i64 0] 23 fun x4 h_1 => 
  sLen x1 fun x9 =>
  sEq x9 (.int .i64 0) fun x10 =>
  sIf x10 (sBuild #[.int .i64 0, .int .i64 0, .int .i64 0] [] fun x11 =>
  sStN h_1 x4 x11 3 fun h_2 => 
  sLdN h_2 x4 3 fun r4 =>
  R r4 h_2) (sLoop (S := Value) (fun nxt s h => pen_Apply_l1 R x1 x2 x4 (fun x5' h => nxt x5' h) s h) (.int .i64 0) h_1)
set_option maxRecDepth 100000 in
theorem pen_Apply_runs {x0 x1 : Value} {h : Heap} {R : Value → Heap → Prop} (H : pen_Apply_S x0 x1 h R) : pen_Apply_c x0 x1 h R := by
  unfold pen_Apply_S at H
  refine runs_of (b := ⟨#[x0, x1, undef, undef, undef, undef, undef, undef, undef, undef, undef, undef, undef, undef, undef, undef, undef, undef, undef, undef, undef, undef, undef, undef, undef, undef, undef, undef, undef, undef, undef, undef, undef, undef, undef, undef, undef, undef, undef, undef, undef, undef, undef, undef, undef, undef, undef, undef, undef, undef, undef, undef, undef, undef, undef, undef, undef, undef, undef, undef], []⟩) Try.call17 Try.func17 rfl (by kernel_rfl) (fun w0 HA => ?_)
  refine wp_seq ?_
  refine lwp_list ?_
  refine ls_d (d := some 2) (by kernel_rfl) (by kernel_rfl) HA (d_box (by kernel_rfl) H) (fun x2 h w H HA => ?_)
  refine ls_d (d := some 4) (by kernel_rfl) (by kernel_rfl) HA (d_alloc Try.zeroValue23 H) (fun x4 h_1 w_1 H HA_1 => ?_)
  refine ls_nil ?_
  refine then_normal ?_
  refine fr_eq (b := ⟨#[x0, x1, x2, undef, x4, undef, undef, undef, undef, undef, undef, undef, undef, undef, undef, undef, undef, undef, undef, undef, undef, undef, undef, undef, undef, undef, undef, undef, undef, undef, undef, undef, undef, undef, undef, undef, undef, undef, undef, undef, undef, undef, undef, undef, undef, undef, undef, undef, undef, undef, undef, undef, undef, undef, undef, undef, undef, undef, undef, undef], []⟩) (by kernel_rfl) ?_
  refine wp_seq ?_
  refine wp_seq ?_
  refine lwp_list ?_
  refine ls_move (x := x1) (by kernel_rfl) (by kernel_rfl) ?_
  refine ls_p (d := some 9) (by kernel_rfl) (by kernel_rfl) (p_len Try.underlying24 (by kernel_rfl) H) (fun x9 H => ?_)
  refine ls_p (d := some 10) (by kernel_rfl) (by kernel_rfl) (p_sEq (by kernel_rfl) (by kernel_rfl) H) (fun x10 H => ?_)
  refine ls_nil ?_
  refine then_normal ?_
  refine fr_eq (b := ⟨#[x0, x1, x2, undef, x4, undef, undef, undef, x1, x9, x10, undef, undef, undef, undef, undef, undef, undef, undef, undef, undef, undef, undef, undef, undef, undef, undef, undef, undef, undef, undef, undef, undef, undef, undef, undef, undef, undef, undef, undef, undef, undef, undef, undef, undef, undef, undef, undef, undef, undef, undef, undef, undef, undef, undef, undef, undef, undef, undef, undef], []⟩) (by kernel_rfl) ?_
  refine wp_if rfl H (fun H => ?_) (fun H => ?_)
  · refine wp_seq ?_
    refine lwp_list ?_
    refine ls_p (d := some 11) (by kernel_rfl) (by kernel_rfl) (p_lit (pl := [(0, 1), (1, 1), (2, 1)]) Try.zeroValue23 Try.underlying23 ⟨(by kernel_rfl), Try.sizeOf3, (by kernel_rfl), Try.sizeOf3, (by kernel_rfl), Try.sizeOf3, trivial⟩ (by kernel_rfl) (by kernel_rfl) H) (fun x11 H => ?_)
    refine ls_d (d := none) (by kernel_rfl) (by kernel_rfl) HA_1 (d_stn Try.sizeOf23 (by kernel_rfl) (by kernel_rfl) H) (fun _ h_2 w_2 H HA_2 => ?_)
    refine ls_nil ?_
    refine then_normal ?_
    refine fr_eq (b := ⟨#[x0, x1, x2, undef, x4, undef, undef, undef, x1, x9, x10, x11, undef, undef, undef, undef, undef, undef, undef, undef, undef, undef, undef, undef, undef, undef, undef, undef, undef, undef, undef, undef, undef, undef, undef, undef, undef, undef, undef, undef, undef, undef, undef, undef, undef, undef, undef, undef, undef, undef, undef, undef, undef, undef, undef, undef, undef, undef, undef, undef], []⟩) (by kernel_rfl) ?_
    refine wp_ret ?_
    refine then_ret ?_
    obtain ⟨r4, hr4, H⟩ := ld_n Try.isAgg23 Try.sizeOf23 H
    exact endR (vs := [r4]) (Try.results17) (by kernel_rfl) ⟨⟨_, (by kernel_rfl), hr4⟩, trivial⟩ HA_2 H _ (.inr rfl)
  · refine wp_skip ?_
    refine then_normal ?_
    refine fr_eq (b := ⟨#[x0, x1, x2, undef, x4, undef, undef, undef, x1, x9, x10, undef, undef, undef, undef, undef, undef, undef, undef, undef, undef, undef, undef, undef, undef, undef, undef, undef, undef, undef, undef, undef, undef, undef, undef, undef, undef, undef, undef, undef, undef, undef, undef, undef, undef, undef, undef, undef, undef, undef, undef, undef, undef, undef, undef, undef, undef, undef, undef, undef], []⟩) (by kernel_rfl) ?_
    refine wp_seq ?_
    refine wp_seq ?_
    refine lwp_list ?_
    refine ls_assign (x := (.int .i64 0)) (by kernel_rfl) (by kernel_rfl) ?_
    refine ls_nil ?_
    refine then_normal ?_
    refine fr_eq (b := ⟨#[x0, x1, x2, undef, x4, (.int .i64 0), undef, undef, x1, x9, x10, undef, undef, undef, undef, undef, undef, undef, undef, undef, undef, undef, undef, undef, undef, undef, undef, undef, undef, undef, undef, undef, undef, undef, undef, undef, undef, undef, undef, undef, undef, undef, undef, undef, undef, undef, undef, undef, undef, undef, undef, undef, undef, undef, undef, undef, undef, undef, undef, undef], []⟩) (by kernel_rfl) ?_
    refine wp_block ?_
    obtain ⟨I, m, H0, HB⟩ := H
    refine wp_loop (fun a w => ∃ (D : Nat → Value) (x5 : Value) (h_3 : Heap), a = ⟨#[x0, x1, x2, undef, x4, x5, (D 0), (D 1), x1, x9, x10, undef, (D 2), (D 3), (D 4), (D 5), (D 6), (D 7), (D 8), (D 9), (D 10), (D 11), (D 12), (D 13), (D 14), (D 15), (D 16), (D 17), (D 18), (D 19), (D 20), (D 21), (D 22), (D 23), (D 24), (D 25), (D 26), (D 27), (D 28), (D 29), (D 30), (D 31), (D 32), (D 33), (D 34), (D 35), (D 36), (D 37), (D 38), (D 39), (D 40), (D 41), (D 42), (D 43), (D 44), (D 45), (D 46), (D 47), (D 48), undef], []⟩ ∧ At w0 w h_3 ∧ I x5 h_3) (fun a w => m (a.tmps.getD 5 undef) w.heap) ?_ ?_
    · exact ⟨(fun i => ([undef, undef, undef, undef, undef, undef, undef, undef, undef, undef, undef, undef, undef, undef, undef, undef, undef, undef, undef, undef, undef, undef, undef, undef, undef, undef, undef, undef, undef, undef, undef, undef, undef, undef, undef, undef, undef, undef, undef, undef, undef, undef, undef, undef, undef, undef, undef, undef, undef]).getD i undef), (.int .i64 0), h_1, by kernel_rfl, HA_1, H0⟩
    · rintro _ w_3 ⟨D, x5, h_3, rfl, HA_3, HI⟩
      have H : pen_Apply_l1 R x1 x2 x4 (fun x5' h' => I x5' h' ∧ m x5' h' < m x5 h_3) x5 h_3 := HB x5 h_3 HI
      clear HB H0 HI
      unfold pen_Apply_l1 at H
      refine wp_seq ?_
      refine wp_seq ?_
      refine lwp_list ?_
      refine ls_move (x := x5) (by kernel_rfl) (by kernel_rfl) ?_
      refine ls_move (x := x1) (by kernel_rfl) (by kernel_rfl) ?_
      refine ls_p (d := some 14) (by kernel_rfl) (by kernel_rfl) (p_len Try.underlying24 (by kernel_rfl) H) (fun x14 H => ?_)
      refine ls_p (d := some 15) (by kernel_rfl) (by kernel_rfl) (p_sLt (by kernel_rfl) (by kernel_rfl) H) (fun x15 H => ?_)
      refine ls_nil ?_
      refine then_normal ?_
      refine fr_eq (b := ⟨#[x0, x1, x2, undef, x4, x5, (D 0), (D 1), x1, x9, x10, undef, x5, x1, x14, x15, (D 6), (D 7), (D 8), (D 9), (D 10), (D 11), (D 12), (D 13), (D 14), (D 15), (D 16), (D 17), (D 18), (D 19), (D 20), (D 21), (D 22), (D 23), (D 24), (D 25), (D 26), (D 27), (D 28), (D 29), (D 30), (D 31), (D 32), (D 33), (D 34), (D 35), (D 36), (D 37), (D 38), (D 39), (D 40), (D 41), (D 42), (D 43), (D 44), (D 45), (D 46), (D 47), (D 48), undef], []⟩) (by kernel_rfl) ?_
      refine wp_if rfl H (fun H => ?_) (fun H => ?_)
      · refine wp_skip ?_
        refine then_normal ?_
        refine fr_eq (b := ⟨#[x0, x1, x2, undef, x4, x5, (D 0), (D 1), x1, x9, x10, undef, x5, x1, x14, x15, (D 6), (D 7), (D 8), (D 9), (D 10), (D 11), (D 12), (D 13), (D 14), (D 15), (D 16), (D 17), (D 18), (D 19), (D 20), (D 21), (D 22), (D 23), (D 24), (D 25), (D 26), (D 27), (D 28), (D 29), (D 30), (D 31), (D 32), (D 33), (D 34), (D 35), (D 36), (D 37), (D 38), (D 39), (D 40), (D 41), (D 42), (D 43), (D 44), (D 45), (D 46), (D 47), (D 48), undef], []⟩) (by kernel_rfl) ?_
        refine wp_seq ?_
        refine wp_join (fun a w => ∃ (D_1 : Nat → Value) (x5_1 : Value) (h_4 : Heap), a = ⟨#[x0, x1, x2, undef, x4, x5_1, (D_1 0), (D_1 1), x1, x9, x10, undef, x5, x1, x14, x15, (D 6), (D 7), (D_1 2), (D_1 3), (D_1 4), (D_1 5), (D_1 6), (D_1 7), (D_1 8), (D_1 9), (D_1 10), (D_1 11), (D_1 12), (D_1 13), (D_1 14), (D_1 15), (D_1 16), (D_1 17), (D_1 18), (D_1 19), (D_1 20), (D_1 21), (D_1 22), (D_1 23), (D_1 24), (D_1 25), (D_1 26), (D_1 27), (D_1 28), (D_1 29), (D_1 30), (D_1 31), (D_1 32), (D_1 33), (D_1 34), (D_1 35), (D_1 36), (D_1 37), (D_1 38), (D_1 39), (D_1 40), (D_1 41), (D_1 42), undef], []⟩ ∧ At w0 w h_4 ∧ pen_Apply_j2 (fun x5' h' => I x5' h' ∧ m x5' h' < m x5 h_3) x5_1 h_4) ?_ ?_
        · refine wp_block ?_
          refine wp_seq ?_
          refine wp_seq ?_
          refine lwp_list ?_
          refine ls_move (x := x1) (by kernel_rfl) (by kernel_rfl) ?_
          refine ls_move (x := x5) (by kernel_rfl) (by kernel_rfl) ?_
          refine ls_p (d := some 20) (by kernel_rfl) (by kernel_rfl) (p_ixs Try.underlying24 Try.sizeOf3 (by kernel_rfl) (by kernel_rfl) H) (fun x20 H => ?_)
          refine ls_y (d := some 21) (by kernel_rfl) (by kernel_rfl) HA_3 (y_ld Try.isAgg3 (by kernel_rfl) H) (fun x21 H => ?_)
          refine ls_p (d := some 22) (by kernel_rfl) (by kernel_rfl) (p_sNe (by kernel_rfl) (by kernel_rfl) H) (fun x22 H => ?_)
          refine ls_move (x := x22) (by kernel_rfl) (by kernel_rfl) ?_
          refine ls_fr (b := ⟨#[x0, x1, x2, undef, x4, x5, (D 0), (D 1), x1, x9, x10, undef, x5, x1, x14, x15, (D 6), (D 7), x1, x5, x20, x21, x22, x22, (D 14), (D 15), (D 16), (D 17), (D 18), (D 19), (D 20), (D 21), (D 22), (D 23), (D 24), (D 25), (D 26), (D 27), (D 28), (D 29), (D 30), (D 31), (D 32), (D 33), (D 34), (D 35), (D 36), (D 37), (D 38), (D 39), (D 40), (D 41), (D 42), (D 43), (D 44), (D 45), (D 46), (D 47), (D 48), undef], []⟩) (by kernel_rfl) ?_
          refine ls_and [(), (), (), (), (), ()] (fun K a w => ∃ (D_2 : Nat → Value) (x29 : Value), a = ⟨#[x0, x1, x2, undef, x4, x5, (D 0), (D 1), x1, x9, x10, undef, x5, x1, x14, x15, (D 6), (D 7), x1, x5, x20, x21, x22, x22, (D_2 0), (D_2 1), (D_2 2), (D_2 3), (D_2 4), x29, (D 20), (D 21), (D 22), (D 23), (D 24), (D 25), (D 26), (D 27), (D 28), (D 29), (D 30), (D 31), (D 32), (D 33), (D 34), (D 35), (D 36), (D 37), (D 38), (D 39), (D 40), (D 41), (D 42), (D 43), (D 44), (D 45), (D 46), (D 47), (D 48), undef], []⟩ ∧ At w0 w h_3 ∧ K x29) H (fun hb H => ?_) (fun hb H => ?_) ?_
          · refine ls_move (x := x1) (by rw [hb]; kernel_rfl) (by kernel_rfl) ?_
            refine ls_move (x := x5) (by rw [hb]; kernel_rfl) (by kernel_rfl) ?_
            refine ls_p (d := some 26) (by kernel_rfl) (by rw [hb]; kernel_rfl) (p_ixs Try.underlying24 Try.sizeOf3 (by kernel_rfl) (by kernel_rfl) H) (fun x26 H => ?_)
            refine ls_y (d := some 27) (by kernel_rfl) (by rw [hb]; kernel_rfl) HA_3 (y_ld Try.isAgg3 (by kernel_rfl) H) (fun x27 H => ?_)
            refine ls_p (d := some 28) (by kernel_rfl) (by rw [hb]; kernel_rfl) (p_sNe (by kernel_rfl) (by kernel_rfl) H) (fun x28 H => ?_)
            refine ls_pick_t (x := x28) (by kernel_rfl) (by rw [hb]; kernel_rfl) (by kernel_rfl) ?_
            refine ls_nil ?_
            refine then_normal ?_
            exact ⟨(fun i => ([x1, x5, x26, x27, x28]).getD i undef), x28, by kernel_rfl, HA_3, H⟩
          · refine ls_skip (d := some 24) (by kernel_rfl) (by rw [hb]; kernel_rfl) ?_
            refine ls_skip (d := some 25) (by kernel_rfl) (by rw [hb]; kernel_rfl) ?_
            refine ls_skip (d := some 26) (by kernel_rfl) (by rw [hb]; kernel_rfl) ?_
            refine ls_skip (d := some 27) (by kernel_rfl) (by rw [hb]; kernel_rfl) ?_
            refine ls_skip (d := some 28) (by kernel_rfl) (by rw [hb]; kernel_rfl) ?_
            refine ls_pick_f (y := (.bool false)) (by kernel_rfl) (by rw [hb]; kernel_rfl) (by kernel_rfl) ?_
            refine ls_nil ?_
            refine then_normal ?_
            exact ⟨(fun i => ([undef, undef, undef, undef, undef]).getD i undef), (.bool false), by kernel_rfl, HA_3, H⟩
          · rintro _ w_5 ⟨D_2, x29, rfl, HA_5, H⟩
            refine ls_nil ?_
            refine then_normal ?_
            refine fr_eq (b := ⟨#[x0, x1, x2, undef, x4, x5, (D 0), (D 1), x1, x9, x10, undef, x5, x1, x14, x15, (D 6), (D 7), x1, x5, x20, x21, x22, x22, (D_2 0), (D_2 1), (D_2 2), (D_2 3), (D_2 4), x29, (D 20), (D 21), (D 22), (D 23), (D 24), (D 25), (D 26), (D 27), (D 28), (D 29), (D 30), (D 31), (D 32), (D 33), (D 34), (D 35), (D 36), (D 37), (D 38), (D 39), (D 40), (D 41), (D 42), (D 43), (D 44), (D 45), (D 46), (D 47), (D 48), undef], []⟩) (by kernel_rfl) ?_
            refine wp_if rfl H (fun H => ?_) (fun H => ?_)
            · refine wp_seq ?_
              refine lwp_mx (Nat.testBit 96) (Nat.testBit 0) (Nat.testBit 14) [0, 0, 0, 6, 14, 31, 63] (fun h' => h' = h_3) [0, 1, 2, 3, 4, 5, 6] (by kernel_rfl) (by kernel_rfl) (by kernel_rfl) HA_5 rfl ?_
              intro w_6 HA_6
              refine lm_f (d := some 30) (by kernel_rfl) rfl (by kernel_rfl) (by kernel_rfl) (by kernel_rfl) (of_eq (y_ldn Try.isAgg23 Try.sizeOf23 (by kernel_rfl) H)) (fun x30 H => ?_)
              refine lm_al (x := x1) (d := some 31) (by kernel_rfl) rfl (by kernel_rfl) (by kernel_rfl) (al_move (by kernel_rfl)) ?_
              refine lm_al (x := x5) (d := some 32) (by kernel_rfl) rfl (by kernel_rfl) (by kernel_rfl) (al_move (by kernel_rfl)) ?_
              refine lm_p (d := some 33) (by kernel_rfl) rfl (by kernel_rfl) (by kernel_rfl) (p_ixs Try.underlying24 Try.sizeOf3 (by kernel_rfl) (by kernel_rfl) H) (fun x33 H => ?_)
              refine lm_f (d := some 34) (by kernel_rfl) rfl (by kernel_rfl) (by kernel_rfl) (by kernel_rfl) (of_eq (y_ld Try.isAgg3 (by kernel_rfl) H)) (fun x34 H => ?_)
              refine lm_d (d := some 35) (by kernel_rfl) rfl (by kernel_rfl) (by kernel_rfl) (by kernel_rfl) HA_6 (d_call (by kernel_rfl) (by kernel_rfl) H) (fun x35 h_5 w_7 H HA_7 => ?_)
              refine lm_fr (b := ⟨#[x0, x1, x2, undef, x4, x5, (D 0), (D 1), x1, x9, x10, undef, x5, x1, x14, x15, (D 6), (D 7), x1, x5, x20, x21, x22, x22, (D_2 0), (D_2 1), (D_2 2), (D_2 3), (D_2 4), x29, x30, x1, x5, x33, x34, x35, (D 26), (D 27), (D 28), (D 29), (D 30), (D 31), (D 32), (D 33), (D 34), (D 35), (D 36), (D 37), (D 38), (D 39), (D 40), (D 41), (D 42), (D 43), (D 44), (D 45), (D 46), (D 47), (D 48), undef], []⟩) (by kernel_rfl) ?_
              refine lm_d (d := none) (by kernel_rfl) rfl (by kernel_rfl) (by kernel_rfl) (by kernel_rfl) HA_7 (d_stn Try.sizeOf23 (by kernel_rfl) (by kernel_rfl) H) (fun _ h_6 w_8 H HA_8 => ?_)
              refine lm_nil ?_
              refine then_normal ?_
              refine fr_eq (b := ⟨#[x0, x1, x2, undef, x4, x5, (D 0), (D 1), x1, x9, x10, undef, x5, x1, x14, x15, (D 6), (D 7), x1, x5, x20, x21, x22, x22, (D_2 0), (D_2 1), (D_2 2), (D_2 3), (D_2 4), x29, x30, x1, x5, x33, x34, x35, (D 26), (D 27), (D 28), (D 29), (D 30), (D 31), (D 32), (D 33), (D 34), (D 35), (D 36), (D 37), (D 38), (D 39), (D 40), (D 41), (D 42), (D 43), (D 44), (D 45), (D 46), (D 47), (D 48), undef], []⟩) (by kernel_rfl) ?_
              refine wp_exit ?_
              refine then_exit ?_
              refine block_exit ?_
              exact ⟨(fun i => ([(D 0), (D 1), x1, x5, x20, x21, x22, x22, (D_2 0), (D_2 1), (D_2 2), (D_2 3), (D_2 4), x29, x30, x1, x5, x33, x34, x35, (D 26), (D 27), (D 28), (D 29), (D 30), (D 31), (D 32), (D 33), (D 34), (D 35), (D 36), (D 37), (D 38), (D 39), (D 40), (D 41), (D 42), (D 43), (D 44), (D 45), (D 46), (D 47), (D 48)]).getD i undef), x5, h_6, by kernel_rfl, HA_8, H⟩
            · refine wp_skip ?_
              refine then_normal ?_
              refine fr_eq (b := ⟨#[x0, x1, x2, undef, x4, x5, (D 0), (D 1), x1, x9, x10, undef, x5, x1, x14, x15, (D 6), (D 7), x1, x5, x20, x21, x22, x22, (D_2 0), (D_2 1), (D_2 2), (D_2 3), (D_2 4), x29, (D 20), (D 21), (D 22), (D 23), (D 24), (D 25), (D 26), (D 27), (D 28), (D 29), (D 30), (D 31), (D 32), (D 33), (D 34), (D 35), (D 36), (D 37), (D 38), (D 39), (D 40), (D 41), (D 42), (D 43), (D 44), (D 45), (D 46), (D 47), (D 48), undef], []⟩) (by kernel_rfl) ?_
              refine wp_seq ?_
              refine lwp_list ?_
              refine ls_move (x := x1) (by kernel_rfl) (by kernel_rfl) ?_
              refine ls_move (x := x5) (by kernel_rfl) (by kernel_rfl) ?_
              refine ls_p (d := some 39) (by kernel_rfl) (by kernel_rfl) (p_add (by kernel_rfl) (by kernel_rfl) H) (fun x39 H => ?_)
              refine ls_p (d := some 40) (by kernel_rfl) (by kernel_rfl) (p_sl Try.underlying24 Try.sizeOf3 (by kernel_rfl) (by kernel_rfl) (by kernel_rfl) H) (fun x40 H => ?_)
              refine ls_d (d := some 41) (by kernel_rfl) (by kernel_rfl) HA_5 (d_call (by kernel_rfl) (by kernel_rfl) H) (fun x41 h_7 w_9 H HA_9 => ?_)
              refine ls_move (x := x41) (by kernel_rfl) (by kernel_rfl) ?_
              refine ls_fr (b := ⟨#[x0, x1, x2, undef, x4, x5, (D 0), (D 1), x1, x9, x10, undef, x5, x1, x14, x15, (D 6), (D 7), x1, x5, x20, x21, x22, x22, (D_2 0), (D_2 1), (D_2 2), (D_2 3), (D_2 4), x29, (D 20), (D 21), (D 22), (D 23), (D 24), (D 25), x41, x1, x5, x39, x40, x41, (D 32), (D 33), (D 34), (D 35), (D 36), (D 37), (D 38), (D 39), (D 40), (D 41), (D 42), (D 43), (D 44), (D 45), (D 46), (D 47), (D 48), undef], []⟩) (by kernel_rfl) ?_
              refine ls_p (d := some 42) (by kernel_rfl) (by kernel_rfl) (p_tup (by kernel_rfl) H) (fun x42 H => ?_)
              refine ls_p (d := some 43) (by kernel_rfl) (by kernel_rfl) (p_tup (by kernel_rfl) H) (fun x43 H => ?_)
              refine ls_assign (x := x42) (by kernel_rfl) (by kernel_rfl) ?_
              refine ls_assign (x := x43) (by kernel_rfl) (by kernel_rfl) ?_
              refine ls_nil ?_
              refine then_normal ?_
              refine fr_eq (b := ⟨#[x0, x1, x2, undef, x4, x5, x42, x43, x1, x9, x10, undef, x5, x1, x14, x15, (D 6), (D 7), x1, x5, x20, x21, x22, x22, (D_2 0), (D_2 1), (D_2 2), (D_2 3), (D_2 4), x29, (D 20), (D 21), (D 22), (D 23), (D 24), (D 25), x41, x1, x5, x39, x40, x41, x42, x43, (D 34), (D 35), (D 36), (D 37), (D 38), (D 39), (D 40), (D 41), (D 42), (D 43), (D 44), (D 45), (D 46), (D 47), (D 48), undef], []⟩) (by kernel_rfl) ?_
              refine wp_seq ?_
              refine wp_seq ?_
              refine lwp_list ?_
              refine ls_move (x := x43) (by kernel_rfl) (by kernel_rfl) ?_
              refine ls_p (d := some 45) (by kernel_rfl) (by kernel_rfl) (p_sEq (by kernel_rfl) (by kernel_rfl) H) (fun x45 H => ?_)
              refine ls_nil ?_
              refine then_normal ?_
              refine fr_eq (b := ⟨#[x0, x1, x2, undef, x4, x5, x42, x43, x1, x9, x10, undef, x5, x1, x14, x15, (D 6), (D 7), x1, x5, x20, x21, x22, x22, (D_2 0), (D_2 1), (D_2 2), (D_2 3), (D_2 4), x29, (D 20), (D 21), (D 22), (D 23), (D 24), (D 25), x41, x1, x5, x39, x40, x41, x42, x43, x43, x45, (D 36), (D 37), (D 38), (D 39), (D 40), (D 41), (D 42), (D 43), (D 44), (D 45), (D 46), (D 47), (D 48), undef], []⟩) (by kernel_rfl) ?_
              refine wp_if rfl H (fun H => ?_) (fun H => ?_)
              · refine wp_seq ?_
                refine lwp_list ?_
                refine ls_y (d := some 46) (by kernel_rfl) (by kernel_rfl) HA_9 (y_ldn Try.isAgg23 Try.sizeOf23 (by kernel_rfl) H) (fun x46 H => ?_)
                refine ls_d (d := none) (by kernel_rfl) (by kernel_rfl) HA_9 (d_stn Try.sizeOf23 (by kernel_rfl) (by kernel_rfl) H) (fun _ h_8 w_10 H HA_10 => ?_)
                refine ls_nil ?_
                refine then_normal ?_
                refine fr_eq (b := ⟨#[x0, x1, x2, undef, x4, x5, x42, x43, x1, x9, x10, undef, x5, x1, x14, x15, (D 6), (D 7), x1, x5, x20, x21, x22, x22, (D_2 0), (D_2 1), (D_2 2), (D_2 3), (D_2 4), x29, (D 20), (D 21), (D 22), (D 23), (D 24), (D 25), x41, x1, x5, x39, x40, x41, x42, x43, x43, x45, x46, (D 37), (D 38), (D 39), (D 40), (D 41), (D 42), (D 43), (D 44), (D 45), (D 46), (D 47), (D 48), undef], []⟩) (by kernel_rfl) ?_
                refine wp_ret ?_
                refine then_ret ?_
                refine block_ret ?_
                refine then_ret ?_
                refine then_ret ?_
                refine then_ret ?_
                refine block_ret ?_
                refine then_ret ?_
                obtain ⟨r4_1, hr4_1, H⟩ := ld_n Try.isAgg23 Try.sizeOf23 H
                exact endR (vs := [r4_1]) (Try.results17) (by kernel_rfl) ⟨⟨_, (by kernel_rfl), hr4_1⟩, trivial⟩ HA_10 H _ (.inr rfl)
              · refine wp_skip ?_
                refine then_normal ?_
                refine fr_eq (b := ⟨#[x0, x1, x2, undef, x4, x5, x42, x43, x1, x9, x10, undef, x5, x1, x14, x15, (D 6), (D 7), x1, x5, x20, x21, x22, x22, (D_2 0), (D_2 1), (D_2 2), (D_2 3), (D_2 4), x29, (D 20), (D 21), (D 22), (D 23), (D 24), (D 25), x41, x1, x5, x39, x40, x41, x42, x43, x43, x45, (D 36), (D 37), (D 38), (D 39), (D 40), (D 41), (D 42), (D 43), (D 44), (D 45), (D 46), (D 47), (D 48), undef], []⟩) (by kernel_rfl) ?_
                refine wp_seq ?_
                refine wp_seq ?_
                refine lwp_list ?_
                refine ls_move (x := x1) (by kernel_rfl) (by kernel_rfl) ?_
                refine ls_move (x := x5) (by kernel_rfl) (by kernel_rfl) ?_
                refine ls_p (d := some 49) (by kernel_rfl) (by kernel_rfl) (p_ixs Try.underlying24 Try.sizeOf3 (by kernel_rfl) (by kernel_rfl) H) (fun x49 H => ?_)
                refine ls_y (d := some 50) (by kernel_rfl) (by kernel_rfl) HA_9 (y_ld Try.isAgg3 (by kernel_rfl) H) (fun x50 H => ?_)
                refine ls_p (d := some 51) (by kernel_rfl) (by kernel_rfl) (p_sEq (by kernel_rfl) (by kernel_rfl) H) (fun x51 H => ?_)
                refine ls_nil ?_
                refine then_normal ?_
                refine fr_eq (b := ⟨#[x0, x1, x2, undef, x4, x5, x42, x43, x1, x9, x10, undef, x5, x1, x14, x15, (D 6), (D 7), x1, x5, x20, x21, x22, x22, (D_2 0), (D_2 1), (D_2 2), (D_2 3), (D_2 4), x29, (D 20), (D 21), (D 22), (D 23), (D 24), (D 25), x41, x1, x5, x39, x40, x41, x42, x43, x43, x45, (D 36), x1, x5, x49, x50, x51, (D 42), (D 43), (D 44), (D 45), (D 46), (D 47), (D 48), undef], []⟩) (by kernel_rfl) ?_
                refine wp_join (fun a w => ∃ (D_3 : Nat → Value) (h_9 : Heap), a = ⟨#[x0, x1, x2, undef, x4, x5, x42, x43, x1, x9, x10, undef, x5, x1, x14, x15, (D 6), (D 7), x1, x5, x20, x21, x22, x22, (D_2 0), (D_2 1), (D_2 2), (D_2 3), (D_2 4), x29, (D 20), (D 21), (D 22), (D 23), (D 24), (D 25), x41, x1, x5, x39, x40, x41, x42, x43, x43, x45, (D 36), x1, x5, x49, x50, x51, (D_3 0), (D_3 1), (D_3 2), (D_3 3), (D 46), (D 47), (D 48), undef], []⟩ ∧ At w0 w h_9 ∧ pen_Apply_j3 (fun x5' h' => I x5' h' ∧ m x5' h' < m x5 h_3) x5 x43 h_9) ?_ ?_
                · refine wp_if rfl H (fun H => ?_) (fun H => ?_)
                  · refine lwp_list ?_
                    refine ls_move (x := x42) (by kernel_rfl) (by kernel_rfl) ?_
                    refine ls_p (d := some 53) (by kernel_rfl) (by kernel_rfl) (p_off Try.underlying23 rfl (fun w => ⟨_, Try.sizeOf3 w⟩) rfl (by kernel_rfl) H) (fun x53 H => ?_)
                    refine ls_d (d := none) (by kernel_rfl) (by kernel_rfl) HA_9 (d_st Try.sizeOf3 (by kernel_rfl) (by kernel_rfl) H) (fun _ h_10 w_12 H HA_12 => ?_)
                    refine ls_nil ?_
                    exact ⟨(fun i => ([x42, x53, (D 44), (D 45)]).getD i undef), h_10, by kernel_rfl, HA_12, H⟩
                  · refine lwp_list ?_
                    refine ls_move (x := x42) (by kernel_rfl) (by kernel_rfl) ?_
                    refine ls_p (d := some 55) (by kernel_rfl) (by kernel_rfl) (p_off Try.underlying23 rfl (fun w => ⟨_, Try.sizeOf3 w⟩) rfl (by kernel_rfl) H) (fun x55 H => ?_)
                    refine ls_d (d := none) (by kernel_rfl) (by kernel_rfl) HA_9 (d_st Try.sizeOf3 (by kernel_rfl) (by kernel_rfl) H) (fun _ h_11 w_13 H HA_13 => ?_)
                    refine ls_nil ?_
                    exact ⟨(fun i => ([(D 42), (D 43), x42, x55]).getD i undef), h_11, by kernel_rfl, HA_13, H⟩
                · rintro _ w_11 ⟨D_3, h_9, rfl, HA_11, H⟩
                  unfold pen_Apply_j3 at H
                  refine then_normal ?_
                  refine fr_eq (b := ⟨#[x0, x1, x2, undef, x4, x5, x42, x43, x1, x9, x10, undef, x5, x1, x14, x15, (D 6), (D 7), x1, x5, x20, x21, x22, x22, (D_2 0), (D_2 1), (D_2 2), (D_2 3), (D_2 4), x29, (D 20), (D 21), (D 22), (D 23), (D 24), (D 25), x41, x1, x5, x39, x40, x41, x42, x43, x43, x45, (D 36), x1, x5, x49, x50, x51, (D_3 0), (D_3 1), (D_3 2), (D_3 3), (D 46), (D 47), (D 48), undef], []⟩) (by kernel_rfl) ?_
                  refine lwp_list ?_
                  refine ls_move (x := x5) (by kernel_rfl) (by kernel_rfl) ?_
                  refine ls_move (x := x43) (by kernel_rfl) (by kernel_rfl) ?_
                  refine ls_p (d := some 58) (by kernel_rfl) (by kernel_rfl) (p_add (by kernel_rfl) (by kernel_rfl) H) (fun x58 H => ?_)
                  refine ls_assign (x := x58) (by kernel_rfl) (by kernel_rfl) ?_
                  refine ls_nil ?_
                  refine block_normal ?_
                  exact ⟨(fun i => ([x42, x43, x1, x5, x20, x21, x22, x22, (D_2 0), (D_2 1), (D_2 2), (D_2 3), (D_2 4), x29, (D 20), (D 21), (D 22), (D 23), (D 24), (D 25), x41, x1, x5, x39, x40, x41, x42, x43, x43, x45, (D 36), x1, x5, x49, x50, x51, (D_3 0), (D_3 1), (D_3 2), (D_3 3), x5, x43, x58]).getD i undef), x58, h_9, by kernel_rfl, HA_11, H⟩
        · rintro _ w_4 ⟨D_1, x5_1, h_4, rfl, HA_4, H⟩
          unfold pen_Apply_j2 at H
          refine then_normal ?_
          refine fr_eq (b := ⟨#[x0, x1, x2, undef, x4, x5_1, (D_1 0), (D_1 1), x1, x9, x10, undef, x5, x1, x14, x15, (D 6), (D 7), (D_1 2), (D_1 3), (D_1 4), (D_1 5), (D_1 6), (D_1 7), (D_1 8), (D_1 9), (D_1 10), (D_1 11), (D_1 12), (D_1 13), (D_1 14), (D_1 15), (D_1 16), (D_1 17), (D_1 18), (D_1 19), (D_1 20), (D_1 21), (D_1 22), (D_1 23), (D_1 24), (D_1 25), (D_1 26), (D_1 27), (D_1 28), (D_1 29), (D_1 30), (D_1 31), (D_1 32), (D_1 33), (D_1 34), (D_1 35), (D_1 36), (D_1 37), (D_1 38), (D_1 39), (D_1 40), (D_1 41), (D_1 42), undef], []⟩) (by kernel_rfl) ?_
          refine lwp_list ?_
          refine ls_move (x := x5_1) (by kernel_rfl) (by kernel_rfl) ?_
          refine ls_p (d := some 17) (by kernel_rfl) (by kernel_rfl) (p_add (by kernel_rfl) (by kernel_rfl) H) (fun x17 H => ?_)
          refine ls_assign (x := x17) (by kernel_rfl) (by kernel_rfl) ?_
          refine ls_nil ?_
          exact ⟨⟨(fun i => ([(D_1 0), (D_1 1), x5, x1, x14, x15, x5_1, x17, (D_1 2), (D_1 3), (D_1 4), (D_1 5), (D_1 6), (D_1 7), (D_1 8), (D_1 9), (D_1 10), (D_1 11), (D_1 12), (D_1 13), (D_1 14), (D_1 15), (D_1 16), (D_1 17), (D_1 18), (D_1 19), (D_1 20), (D_1 21), (D_1 22), (D_1 23), (D_1 24), (D_1 25), (D_1 26), (D_1 27), (D_1 28), (D_1 29), (D_1 30), (D_1 31), (D_1 32), (D_1 33), (D_1 34), (D_1 35), (D_1 36), (D_1 37), (D_1 38), (D_1 39), (D_1 40), (D_1 41), (D_1 42)]).getD i undef), x17, h_4, by kernel_rfl, HA_4, H.1⟩, loop_lt HA_4.heap HA_3.heap (by kernel_rfl) (by kernel_rfl) H.2⟩
      · refine wp_exit ?_
        refine then_exit ?_
        refine then_exit ?_
        refine block_exit ?_
        refine then_normal ?_
        refine fr_eq (b := ⟨#[x0, x1, x2, undef, x4, x5, (D 0), (D 1), x1, x9, x10, undef, x5, x1, x14, x15, (D 6), (D 7), (D 8), (D 9), (D 10), (D 11), (D 12), (D 13), (D 14), (D 15), (D 16), (D 17), (D 18), (D 19), (D 20), (D 21), (D 22), (D 23), (D 24), (D 25), (D 26), (D 27), (D 28), (D 29), (D 30), (D 31), (D 32), (D 33), (D 34), (D 35), (D 36), (D 37), (D 38), (D 39), (D 40), (D 41), (D 42), (D 43), (D 44), (D 45), (D 46), (D 47), (D 48), undef], []⟩) (by kernel_rfl) ?_
        refine wp_seq ?_
        refine lwp_list ?_
        refine ls_y (d := some 59) (by kernel_rfl) (by kernel_rfl) HA_3 (y_ldn Try.isAgg23 Try.sizeOf23 (by kernel_rfl) H) (fun x59 H => ?_)
        refine ls_d (d := none) (by kernel_rfl) (by kernel_rfl) HA_3 (d_stn Try.sizeOf23 (by kernel_rfl) (by kernel_rfl) H) (fun _ h_12 w_14 H HA_14 => ?_)
        refine ls_nil ?_
        refine then_normal ?_
        refine fr_eq (b := ⟨#[x0, x1, x2, undef, x4, x5, (D 0), (D 1), x1, x9, x10, undef, x5, x1, x14, x15, (D 6), (D 7), (D 8), (D 9), (D 10), (D 11), (D 12), (D 13), (D 14), (D 15), (D 16), (D 17), (D 18), (D 19), (D 20), (D 21), (D 22), (D 23), (D 24), (D 25), (D 26), (D 27), (D 28), (D 29), (D 30), (D 31), (D 32), (D 33), (D 34), (D 35), (D 36), (D 37), (D 38), (D 39), (D 40), (D 41), (D 42), (D 43), (D 44), (D 45), (D 46), (D 47), (D 48), x59], []⟩) (by kernel_rfl) ?_
        refine wp_ret ?_
        obtain ⟨r4_2, hr4_2, H⟩ := ld_n Try.isAgg23 Try.sizeOf23 H
        exact endR (vs := [r4_2]) (Try.results17) (by kernel_rfl) ⟨⟨_, (by kernel_rfl), hr4_2⟩, trivial⟩ HA_14 H _ (.inr rfl)

end Go.Proofs.Ytkagmlpnidijaaa
