/- The shallow reading of one function, and that the function does it. Written by a program. -/
import Derived.Test.YtbgipcikkedloaaFnC
set_option linter.unusedVariables false
namespace Go.Proofs.Ytbgipcikkedloaa
open Go Go.HW

def betonylaw08_ScanTypes_j3 (next1 : Value → Value → Heap → Prop) (x5 x3_2 : Value) (h_2 : Heap) : Prop :=
  sAdd .i64 x5 (.int .i64 1) fun x14 =>
  next1 x3_2 x14 h_2
def betonylaw08_ScanTypes_l2 (next : Value → Value → Heap → Prop) (x0 x4 : Value) (next1 : Value → Value → Heap → Prop) (x3_1 x5 : Value) (h_1 : Heap) : Prop :=
  sLt x5 (.int .i64 2) fun x12 =>
  sIf x12 (sBuild #[.int .i64 0, .int .i64 0] [(0, 1, x4), (1, 1, x5)] fun x17 =>
  scan_Bytes_c x17 (.bool false) h_1 fun x18 h_3 => 
  sLen x18 fun x20 =>
  sEq x20 (.int .i64 1) fun x21 =>
  sAnd x21 (fun k_1 =>
  sIxS x18 (.int .i64 0) 1 fun x24 =>
  sLd h_3 x24 fun x25 =>
  sEq x25 x0 fun x27 =>
  k_1 x27) fun x28 =>
  sAnd x28 (fun k =>
  sNe x4 (.int .i64 37) fun x31 =>
  k x31) fun x32 =>
  sIf x32 (sAdd .i64 x3_1 (.int .i64 1) fun x34 =>
  betonylaw08_ScanTypes_j3 next1 x5 x34 h_3) (betonylaw08_ScanTypes_j3 next1 x5 x3_1 h_3)) (sAdd .i64 x4 (.int .i64 1) fun x10 =>
  next x3_1 x10 h_1)
def betonylaw08_ScanTypes_l1 (R : Value → Heap → Prop) (x0 : Value) (next : Value → Value → Heap → Prop) (x3 x4 : Value) (h : Heap) : Prop :=
  sLe x4 (.int .i64 52) fun x8 =>
  sIf x8 (sLoop (S := Value × Value) (fun nxt s h => betonylaw08_ScanTypes_l2 next x0 x4 (fun x3_1' x5' h => nxt (x3_1', x5') h) s.1 s.2 h) (x3, (.int .i64 0)) h) (sGt x0 (.int .u8 32) fun x36 =>
  sAnd x36 (fun k_4 =>
  sLt x0 (.int .u8 127) fun x39 =>
  k_4 x39) fun x40 =>
  sIf x40 (sEq x3 (.int .i64 1) fun x42 =>
  sAndH x42 h (fun k_2 =>
  betonylaw08_awake_c  h fun x44 h_5 => 
  k_2 x44 h_5) fun x45 h_4 =>
  R x45 h_4) (sLe x3 (.int .i64 2) fun x47 =>
  sAndH x47 h (fun k_3 =>
  betonylaw08_awake_c  h fun x49 h_7 => 
  k_3 x49 h_7) fun x50 h_6 =>
  R x50 h_6))
def betonylaw08_ScanTypes_S (x0 : Value) (h : Heap) (R : Value → Heap → Prop) : Prop :=
  sLoop (S := Value × Value) (fun nxt s h => betonylaw08_ScanTypes_l1 R x0 (fun x3' x4' h => nxt (x3', x4') h) s.1 s.2 h) ((.int .i64 0), (.int .i64 1)) h
set_option maxRecDepth 100000 in
theorem betonylaw08_ScanTypes_runs {x0 : Value} {h : Heap} {R : Value → Heap → Prop} (H : betonylaw08_ScanTypes_S x0 h R) : betonylaw08_ScanTypes_c x0 h R := by
  unfold betonylaw08_ScanTypes_S at H
  refine runs_of (b := ⟨#[x0, undef, undef, undef, undef, undef, undef, undef, undef, undef, undef, undef, undef, undef, undef, undef, undef, undef, undef, undef, undef, undef, undef, undef, undef, undef, undef, undef, undef, undef, undef, undef, undef, undef, undef, undef, undef, undef, undef, undef, undef, undef, undef, undef, undef, undef, undef, undef, undef, undef, undef], []⟩) Try.call7 Try.func7 rfl (by kernel_rfl) (fun w0 HA => ?_)
  refine wp_seq ?_
  refine lwp_list ?_
  refine ls_assign (x := (.bool false)) (by kernel_rfl) (by kernel_rfl) ?_
  refine ls_nil ?_
  refine then_normal ?_
  refine fr_eq (b := ⟨#[x0, undef, (.bool false), undef, undef, undef, undef, undef, undef, undef, undef, undef, undef, undef, undef, undef, undef, undef, undef, undef, undef, undef, undef, undef, undef, undef, undef, undef, undef, undef, undef, undef, undef, undef, undef, undef, undef, undef, undef, undef, undef, undef, undef, undef, undef, undef, undef, undef, undef, undef, undef], []⟩) (by kernel_rfl) ?_
  refine wp_seq ?_
  refine lwp_list ?_
  refine ls_assign (x := (.int .i64 0)) (by kernel_rfl) (by kernel_rfl) ?_
  refine ls_nil ?_
  refine then_normal ?_
  refine fr_eq (b := ⟨#[x0, undef, (.bool false), (.int .i64 0), undef, undef, undef, undef, undef, undef, undef, undef, undef, undef, undef, undef, undef, undef, undef, undef, undef, undef, undef, undef, undef, undef, undef, undef, undef, undef, undef, undef, undef, undef, undef, undef, undef, undef, undef, undef, undef, undef, undef, undef, undef, undef, undef, undef, undef, undef, undef], []⟩) (by kernel_rfl) ?_
  refine wp_seq ?_
  refine wp_seq ?_
  refine lwp_list ?_
  refine ls_assign (x := (.int .i64 1)) (by kernel_rfl) (by kernel_rfl) ?_
  refine ls_nil ?_
  refine then_normal ?_
  refine fr_eq (b := ⟨#[x0, undef, (.bool false), (.int .i64 0), (.int .i64 1), undef, undef, undef, undef, undef, undef, undef, undef, undef, undef, undef, undef, undef, undef, undef, undef, undef, undef, undef, undef, undef, undef, undef, undef, undef, undef, undef, undef, undef, undef, undef, undef, undef, undef, undef, undef, undef, undef, undef, undef, undef, undef, undef, undef, undef, undef], []⟩) (by kernel_rfl) ?_
  refine wp_block ?_
  obtain ⟨I, m, H0, HB⟩ := H
  refine wp_loop (fun a w => ∃ (D : Nat → Value) (x3 x4 : Value) (h : Heap), a = ⟨#[x0, undef, (.bool false), x3, x4, (D 0), (D 1), (D 2), (D 3), (D 4), (D 5), (D 6), (D 7), (D 8), (D 9), (D 10), (D 11), (D 12), (D 13), (D 14), (D 15), (D 16), (D 17), (D 18), (D 19), (D 20), (D 21), (D 22), (D 23), (D 24), (D 25), (D 26), (D 27), (D 28), (D 29), undef, undef, undef, undef, undef, undef, undef, undef, undef, undef, undef, undef, undef, undef, undef, undef], []⟩ ∧ At w0 w h ∧ I (x3, x4) h) (fun a w => m ((a.tmps.getD 3 undef), (a.tmps.getD 4 undef)) w.heap) ?_ ?_
  · exact ⟨(fun i => ([undef, undef, undef, undef, undef, undef, undef, undef, undef, undef, undef, undef, undef, undef, undef, undef, undef, undef, undef, undef, undef, undef, undef, undef, undef, undef, undef, undef, undef, undef]).getD i undef), (.int .i64 0), (.int .i64 1), h, by kernel_rfl, HA, H0⟩
  · rintro _ w ⟨D, x3, x4, h, rfl, HA, HI⟩
    have H : betonylaw08_ScanTypes_l1 R x0 (fun x3' x4' h' => I (x3', x4') h' ∧ m (x3', x4') h' < m (x3, x4) h) x3 x4 h := HB (x3, x4) h HI
    clear HB H0 HI
    unfold betonylaw08_ScanTypes_l1 at H
    refine wp_seq ?_
    refine wp_seq ?_
    refine lwp_list ?_
    refine ls_move (x := x4) (by kernel_rfl) (by kernel_rfl) ?_
    refine ls_p (d := some 8) (by kernel_rfl) (by kernel_rfl) (p_sLe (by kernel_rfl) (by kernel_rfl) H) (fun x8 H => ?_)
    refine ls_nil ?_
    refine then_normal ?_
    refine fr_eq (b := ⟨#[x0, undef, (.bool false), x3, x4, (D 0), (D 1), x4, x8, (D 4), (D 5), (D 6), (D 7), (D 8), (D 9), (D 10), (D 11), (D 12), (D 13), (D 14), (D 15), (D 16), (D 17), (D 18), (D 19), (D 20), (D 21), (D 22), (D 23), (D 24), (D 25), (D 26), (D 27), (D 28), (D 29), undef, undef, undef, undef, undef, undef, undef, undef, undef, undef, undef, undef, undef, undef, undef, undef], []⟩) (by kernel_rfl) ?_
    refine wp_if rfl H (fun H => ?_) (fun H => ?_)
    · refine wp_skip ?_
      refine then_normal ?_
      refine fr_eq (b := ⟨#[x0, undef, (.bool false), x3, x4, (D 0), (D 1), x4, x8, (D 4), (D 5), (D 6), (D 7), (D 8), (D 9), (D 10), (D 11), (D 12), (D 13), (D 14), (D 15), (D 16), (D 17), (D 18), (D 19), (D 20), (D 21), (D 22), (D 23), (D 24), (D 25), (D 26), (D 27), (D 28), (D 29), undef, undef, undef, undef, undef, undef, undef, undef, undef, undef, undef, undef, undef, undef, undef, undef], []⟩) (by kernel_rfl) ?_
      refine wp_seq ?_
      refine wp_block ?_
      refine wp_seq ?_
      refine lwp_list ?_
      refine ls_assign (x := (.int .i64 0)) (by kernel_rfl) (by kernel_rfl) ?_
      refine ls_nil ?_
      refine then_normal ?_
      refine fr_eq (b := ⟨#[x0, undef, (.bool false), x3, x4, (.int .i64 0), (D 1), x4, x8, (D 4), (D 5), (D 6), (D 7), (D 8), (D 9), (D 10), (D 11), (D 12), (D 13), (D 14), (D 15), (D 16), (D 17), (D 18), (D 19), (D 20), (D 21), (D 22), (D 23), (D 24), (D 25), (D 26), (D 27), (D 28), (D 29), undef, undef, undef, undef, undef, undef, undef, undef, undef, undef, undef, undef, undef, undef, undef, undef], []⟩) (by kernel_rfl) ?_
      refine wp_block ?_
      obtain ⟨I_1, m_1, H0, HB⟩ := H
      refine wp_loop (fun a w => ∃ (D_1 : Nat → Value) (x3_1 x5 : Value) (h_1 : Heap), a = ⟨#[x0, undef, (.bool false), x3_1, x4, x5, (D_1 0), x4, x8, (D 4), (D 5), (D_1 1), (D_1 2), (D_1 3), (D_1 4), (D_1 5), (D_1 6), (D_1 7), (D_1 8), (D_1 9), (D_1 10), (D_1 11), (D_1 12), (D_1 13), (D_1 14), (D_1 15), (D_1 16), (D_1 17), (D_1 18), (D_1 19), (D_1 20), (D_1 21), (D_1 22), (D_1 23), (D_1 24), undef, undef, undef, undef, undef, undef, undef, undef, undef, undef, undef, undef, undef, undef, undef, undef], []⟩ ∧ At w0 w h_1 ∧ I_1 (x3_1, x5) h_1) (fun a w => m_1 ((a.tmps.getD 3 undef), (a.tmps.getD 5 undef)) w.heap) ?_ ?_
      · exact ⟨(fun i => ([(D 1), (D 6), (D 7), (D 8), (D 9), (D 10), (D 11), (D 12), (D 13), (D 14), (D 15), (D 16), (D 17), (D 18), (D 19), (D 20), (D 21), (D 22), (D 23), (D 24), (D 25), (D 26), (D 27), (D 28), (D 29)]).getD i undef), x3, (.int .i64 0), h, by kernel_rfl, HA, H0⟩
      · rintro _ w_1 ⟨D_1, x3_1, x5, h_1, rfl, HA_1, HI⟩
        have H : betonylaw08_ScanTypes_l2 (fun x3' x4' h' => I (x3', x4') h' ∧ m (x3', x4') h' < m (x3, x4) h) x0 x4 (fun x3_1' x5' h' => I_1 (x3_1', x5') h' ∧ m_1 (x3_1', x5') h' < m_1 (x3_1, x5) h_1) x3_1 x5 h_1 := HB (x3_1, x5) h_1 HI
        clear HB H0 HI
        unfold betonylaw08_ScanTypes_l2 at H
        refine wp_seq ?_
        refine wp_seq ?_
        refine lwp_list ?_
        refine ls_move (x := x5) (by kernel_rfl) (by kernel_rfl) ?_
        refine ls_p (d := some 12) (by kernel_rfl) (by kernel_rfl) (p_sLt (by kernel_rfl) (by kernel_rfl) H) (fun x12 H => ?_)
        refine ls_nil ?_
        refine then_normal ?_
        refine fr_eq (b := ⟨#[x0, undef, (.bool false), x3_1, x4, x5, (D_1 0), x4, x8, (D 4), (D 5), x5, x12, (D_1 3), (D_1 4), (D_1 5), (D_1 6), (D_1 7), (D_1 8), (D_1 9), (D_1 10), (D_1 11), (D_1 12), (D_1 13), (D_1 14), (D_1 15), (D_1 16), (D_1 17), (D_1 18), (D_1 19), (D_1 20), (D_1 21), (D_1 22), (D_1 23), (D_1 24), undef, undef, undef, undef, undef, undef, undef, undef, undef, undef, undef, undef, undef, undef, undef, undef], []⟩) (by kernel_rfl) ?_
        refine wp_if rfl H (fun H => ?_) (fun H => ?_)
        · refine wp_skip ?_
          refine then_normal ?_
          refine fr_eq (b := ⟨#[x0, undef, (.bool false), x3_1, x4, x5, (D_1 0), x4, x8, (D 4), (D 5), x5, x12, (D_1 3), (D_1 4), (D_1 5), (D_1 6), (D_1 7), (D_1 8), (D_1 9), (D_1 10), (D_1 11), (D_1 12), (D_1 13), (D_1 14), (D_1 15), (D_1 16), (D_1 17), (D_1 18), (D_1 19), (D_1 20), (D_1 21), (D_1 22), (D_1 23), (D_1 24), undef, undef, undef, undef, undef, undef, undef, undef, undef, undef, undef, undef, undef, undef, undef, undef], []⟩) (by kernel_rfl) ?_
          refine wp_seq ?_
          refine wp_join (fun a w => ∃ (D_2 : Nat → Value) (x3_2 : Value) (h_2 : Heap), a = ⟨#[x0, undef, (.bool false), x3_2, x4, x5, (D_2 0), x4, x8, (D 4), (D 5), x5, x12, (D_1 3), (D_1 4), (D_2 1), (D_2 2), (D_2 3), (D_2 4), (D_2 5), (D_2 6), (D_2 7), (D_2 8), (D_2 9), (D_2 10), (D_2 11), (D_2 12), (D_2 13), (D_2 14), (D_2 15), (D_2 16), (D_2 17), (D_2 18), (D_2 19), (D_2 20), undef, undef, undef, undef, undef, undef, undef, undef, undef, undef, undef, undef, undef, undef, undef, undef], []⟩ ∧ At w0 w h_2 ∧ betonylaw08_ScanTypes_j3 (fun x3_1' x5' h' => I_1 (x3_1', x5') h' ∧ m_1 (x3_1', x5') h' < m_1 (x3_1, x5) h_1) x5 x3_2 h_2) ?_ ?_
          · refine wp_block ?_
            refine wp_seq ?_
            refine lwp_list ?_
            refine ls_move (x := x4) (by kernel_rfl) (by kernel_rfl) ?_
            refine ls_move (x := x5) (by kernel_rfl) (by kernel_rfl) ?_
            refine ls_p (d := some 17) (by kernel_rfl) (by kernel_rfl) (p_lit (pl := [(0, 1), (1, 1)]) Try.zeroValue52 Try.underlying52 ⟨(by kernel_rfl), Try.sizeOf3, (by kernel_rfl), Try.sizeOf3, trivial⟩ (by kernel_rfl) (by kernel_rfl) H) (fun x17 H => ?_)
            refine ls_d (d := some 18) (by kernel_rfl) (by kernel_rfl) HA_1 (d_call (by kernel_rfl) (by kernel_rfl) H) (fun x18 h_3 w_3 H HA_3 => ?_)
            refine ls_assign (x := x18) (by kernel_rfl) (by kernel_rfl) ?_
            refine ls_nil ?_
            refine then_normal ?_
            refine fr_eq (b := ⟨#[x0, undef, (.bool false), x3_1, x4, x5, x18, x4, x8, (D 4), (D 5), x5, x12, (D_1 3), (D_1 4), x4, x5, x17, x18, (D_1 9), (D_1 10), (D_1 11), (D_1 12), (D_1 13), (D_1 14), (D_1 15), (D_1 16), (D_1 17), (D_1 18), (D_1 19), (D_1 20), (D_1 21), (D_1 22), (D_1 23), (D_1 24), undef, undef, undef, undef, undef, undef, undef, undef, undef, undef, undef, undef, undef, undef, undef, undef], []⟩) (by kernel_rfl) ?_
            refine wp_seq ?_
            refine lwp_list ?_
            refine ls_move (x := x18) (by kernel_rfl) (by kernel_rfl) ?_
            refine ls_p (d := some 20) (by kernel_rfl) (by kernel_rfl) (p_len Try.underlying54 (by kernel_rfl) H) (fun x20 H => ?_)
            refine ls_p (d := some 21) (by kernel_rfl) (by kernel_rfl) (p_sEq (by kernel_rfl) (by kernel_rfl) H) (fun x21 H => ?_)
            refine ls_move (x := x21) (by kernel_rfl) (by kernel_rfl) ?_
            refine ls_and [(), (), (), (), (), ()] (fun K a w => ∃ (D_3 : Nat → Value) (x28 : Value), a = ⟨#[x0, undef, (.bool false), x3_1, x4, x5, x18, x4, x8, (D 4), (D 5), x5, x12, (D_1 3), (D_1 4), x4, x5, x17, x18, x18, x20, x21, x21, (D_3 0), (D_3 1), (D_3 2), (D_3 3), (D_3 4), x28, (D_1 19), (D_1 20), (D_1 21), (D_1 22), (D_1 23), (D_1 24), undef, undef, undef, undef, undef, undef, undef, undef, undef, undef, undef, undef, undef, undef, undef, undef], []⟩ ∧ At w0 w h_3 ∧ K x28) H (fun hb_1 H => ?_) (fun hb_1 H => ?_) ?_
            · refine ls_move (x := x18) (by rw [hb_1]; kernel_rfl) (by kernel_rfl) ?_
              refine ls_p (d := some 24) (by kernel_rfl) (by rw [hb_1]; kernel_rfl) (p_ixs Try.underlying54 Try.sizeOf5 (by kernel_rfl) (by kernel_rfl) H) (fun x24 H => ?_)
              refine ls_fr (b := ⟨#[x0, undef, (.bool false), x3_1, x4, x5, x18, x4, x8, (D 4), (D 5), x5, x12, (D_1 3), (D_1 4), x4, x5, x17, x18, x18, x20, x21, x21, x18, x24, (D_1 15), (D_1 16), (D_1 17), (D_1 18), (D_1 19), (D_1 20), (D_1 21), (D_1 22), (D_1 23), (D_1 24), undef, undef, undef, undef, undef, undef, undef, undef, undef, undef, undef, undef, undef, undef, undef, undef], []⟩) (by kernel_rfl) ?_
              refine ls_y (d := some 25) (by kernel_rfl) (by rw [hb_1]; kernel_rfl) HA_3 (y_ld Try.isAgg5 (by kernel_rfl) H) (fun x25 H => ?_)
              refine ls_move (x := x0) (by rw [hb_1]; kernel_rfl) (by kernel_rfl) ?_
              refine ls_p (d := some 27) (by kernel_rfl) (by rw [hb_1]; kernel_rfl) (p_sEq (by kernel_rfl) (by kernel_rfl) H) (fun x27 H => ?_)
              refine ls_pick_t (x := x27) (by kernel_rfl) (by rw [hb_1]; kernel_rfl) (by kernel_rfl) ?_
              refine ls_nil ?_
              refine then_normal ?_
              exact ⟨(fun i => ([x18, x24, x25, x0, x27]).getD i undef), x27, by kernel_rfl, HA_3, H⟩
            · refine ls_skip (d := some 23) (by kernel_rfl) (by rw [hb_1]; kernel_rfl) ?_
              refine ls_skip (d := some 24) (by kernel_rfl) (by rw [hb_1]; kernel_rfl) ?_
              refine ls_fr (b := ⟨#[x0, undef, (.bool false), x3_1, x4, x5, x18, x4, x8, (D 4), (D 5), x5, x12, (D_1 3), (D_1 4), x4, x5, x17, x18, x18, x20, x21, x21, undef, undef, (D_1 15), (D_1 16), (D_1 17), (D_1 18), (D_1 19), (D_1 20), (D_1 21), (D_1 22), (D_1 23), (D_1 24), undef, undef, undef, undef, undef, undef, undef, undef, undef, undef, undef, undef, undef, undef, undef, undef], []⟩) (by kernel_rfl) ?_
              refine ls_skip (d := some 25) (by kernel_rfl) (by rw [hb_1]; kernel_rfl) ?_
              refine ls_skip (d := some 26) (by kernel_rfl) (by rw [hb_1]; kernel_rfl) ?_
              refine ls_skip (d := some 27) (by kernel_rfl) (by rw [hb_1]; kernel_rfl) ?_
              refine ls_pick_f (y := (.bool false)) (by kernel_rfl) (by rw [hb_1]; kernel_rfl) (by kernel_rfl) ?_
              refine ls_nil ?_
              refine then_normal ?_
              exact ⟨(fun i => ([undef, undef, undef, undef, undef]).getD i undef), (.bool false), by kernel_rfl, HA_3, H⟩
            · rintro _ w_4 ⟨D_3, x28, rfl, HA_4, H⟩
              refine ls_move (x := x28) (by kernel_rfl) (by kernel_rfl) ?_
              refine ls_and [(), (), ()] (fun K a w => ∃ (D_4 : Nat → Value) (x32 : Value), a = ⟨#[x0, undef, (.bool false), x3_1, x4, x5, x18, x4, x8, (D 4), (D 5), x5, x12, (D_1 3), (D_1 4), x4, x5, x17, x18, x18, x20, x21, x21, (D_3 0), (D_3 1), (D_3 2), (D_3 3), (D_3 4), x28, x28, (D_4 0), (D_4 1), x32, (D_1 23), (D_1 24), undef, undef, undef, undef, undef, undef, undef, undef, undef, undef, undef, undef, undef, undef, undef, undef], []⟩ ∧ At w0 w h_3 ∧ K x32) H (fun hb H => ?_) (fun hb H => ?_) ?_
              · refine ls_move (x := x4) (by rw [hb]; kernel_rfl) (by kernel_rfl) ?_
                refine ls_p (d := some 31) (by kernel_rfl) (by rw [hb]; kernel_rfl) (p_sNe (by kernel_rfl) (by kernel_rfl) H) (fun x31 H => ?_)
                refine ls_pick_t (x := x31) (by kernel_rfl) (by rw [hb]; kernel_rfl) (by kernel_rfl) ?_
                refine ls_nil ?_
                refine then_normal ?_
                exact ⟨(fun i => ([x4, x31]).getD i undef), x31, by kernel_rfl, HA_4, H⟩
              · refine ls_skip (d := some 30) (by kernel_rfl) (by rw [hb]; kernel_rfl) ?_
                refine ls_skip (d := some 31) (by kernel_rfl) (by rw [hb]; kernel_rfl) ?_
                refine ls_pick_f (y := (.bool false)) (by kernel_rfl) (by rw [hb]; kernel_rfl) (by kernel_rfl) ?_
                refine ls_nil ?_
                refine then_normal ?_
                exact ⟨(fun i => ([undef, undef]).getD i undef), (.bool false), by kernel_rfl, HA_4, H⟩
              · rintro _ w_5 ⟨D_4, x32, rfl, HA_5, H⟩
                refine ls_nil ?_
                refine then_normal ?_
                refine fr_eq (b := ⟨#[x0, undef, (.bool false), x3_1, x4, x5, x18, x4, x8, (D 4), (D 5), x5, x12, (D_1 3), (D_1 4), x4, x5, x17, x18, x18, x20, x21, x21, (D_3 0), (D_3 1), (D_3 2), (D_3 3), (D_3 4), x28, x28, (D_4 0), (D_4 1), x32, (D_1 23), (D_1 24), undef, undef, undef, undef, undef, undef, undef, undef, undef, undef, undef, undef, undef, undef, undef, undef], []⟩) (by kernel_rfl) ?_
                refine wp_if rfl H (fun H => ?_) (fun H => ?_)
                · refine lwp_list ?_
                  refine ls_move (x := x3_1) (by kernel_rfl) (by kernel_rfl) ?_
                  refine ls_p (d := some 34) (by kernel_rfl) (by kernel_rfl) (p_add (by kernel_rfl) (by kernel_rfl) H) (fun x34 H => ?_)
                  refine ls_assign (x := x34) (by kernel_rfl) (by kernel_rfl) ?_
                  refine ls_nil ?_
                  refine block_normal ?_
                  exact ⟨(fun i => ([x18, x4, x5, x17, x18, x18, x20, x21, x21, (D_3 0), (D_3 1), (D_3 2), (D_3 3), (D_3 4), x28, x28, (D_4 0), (D_4 1), x32, x3_1, x34]).getD i undef), x34, h_3, by kernel_rfl, HA_5, H⟩
                · refine wp_skip ?_
                  refine block_normal ?_
                  exact ⟨(fun i => ([x18, x4, x5, x17, x18, x18, x20, x21, x21, (D_3 0), (D_3 1), (D_3 2), (D_3 3), (D_3 4), x28, x28, (D_4 0), (D_4 1), x32, (D_1 23), (D_1 24)]).getD i undef), x3_1, h_3, by kernel_rfl, HA_5, H⟩
          · rintro _ w_2 ⟨D_2, x3_2, h_2, rfl, HA_2, H⟩
            unfold betonylaw08_ScanTypes_j3 at H
            refine then_normal ?_
            refine fr_eq (b := ⟨#[x0, undef, (.bool false), x3_2, x4, x5, (D_2 0), x4, x8, (D 4), (D 5), x5, x12, (D_1 3), (D_1 4), (D_2 1), (D_2 2), (D_2 3), (D_2 4), (D_2 5), (D_2 6), (D_2 7), (D_2 8), (D_2 9), (D_2 10), (D_2 11), (D_2 12), (D_2 13), (D_2 14), (D_2 15), (D_2 16), (D_2 17), (D_2 18), (D_2 19), (D_2 20), undef, undef, undef, undef, undef, undef, undef, undef, undef, undef, undef, undef, undef, undef, undef, undef], []⟩) (by kernel_rfl) ?_
            refine lwp_list ?_
            refine ls_move (x := x5) (by kernel_rfl) (by kernel_rfl) ?_
            refine ls_p (d := some 14) (by kernel_rfl) (by kernel_rfl) (p_add (by kernel_rfl) (by kernel_rfl) H) (fun x14 H => ?_)
            refine ls_assign (x := x14) (by kernel_rfl) (by kernel_rfl) ?_
            refine ls_nil ?_
            exact ⟨⟨(fun i => ([(D_2 0), x5, x12, x5, x14, (D_2 1), (D_2 2), (D_2 3), (D_2 4), (D_2 5), (D_2 6), (D_2 7), (D_2 8), (D_2 9), (D_2 10), (D_2 11), (D_2 12), (D_2 13), (D_2 14), (D_2 15), (D_2 16), (D_2 17), (D_2 18), (D_2 19), (D_2 20)]).getD i undef), x3_2, x14, h_2, by kernel_rfl, HA_2, H.1⟩, loop_lt HA_2.heap HA_1.heap (by kernel_rfl) (by kernel_rfl) H.2⟩
        · refine wp_exit ?_
          refine then_exit ?_
          refine then_exit ?_
          refine block_exit ?_
          refine block_normal ?_
          refine then_normal ?_
          refine fr_eq (b := ⟨#[x0, undef, (.bool false), x3_1, x4, x5, (D_1 0), x4, x8, (D 4), (D 5), x5, x12, (D_1 3), (D_1 4), (D_1 5), (D_1 6), (D_1 7), (D_1 8), (D_1 9), (D_1 10), (D_1 11), (D_1 12), (D_1 13), (D_1 14), (D_1 15), (D_1 16), (D_1 17), (D_1 18), (D_1 19), (D_1 20), (D_1 21), (D_1 22), (D_1 23), (D_1 24), undef, undef, undef, undef, undef, undef, undef, undef, undef, undef, undef, undef, undef, undef, undef, undef], []⟩) (by kernel_rfl) ?_
          refine lwp_list ?_
          refine ls_move (x := x4) (by kernel_rfl) (by kernel_rfl) ?_
          refine ls_p (d := some 10) (by kernel_rfl) (by kernel_rfl) (p_add (by kernel_rfl) (by kernel_rfl) H) (fun x10 H => ?_)
          refine ls_assign (x := x10) (by kernel_rfl) (by kernel_rfl) ?_
          refine ls_nil ?_
          exact ⟨⟨(fun i => ([x5, (D_1 0), x4, x8, x4, x10, x5, x12, (D_1 3), (D_1 4), (D_1 5), (D_1 6), (D_1 7), (D_1 8), (D_1 9), (D_1 10), (D_1 11), (D_1 12), (D_1 13), (D_1 14), (D_1 15), (D_1 16), (D_1 17), (D_1 18), (D_1 19), (D_1 20), (D_1 21), (D_1 22), (D_1 23), (D_1 24)]).getD i undef), x3_1, x10, h_1, by kernel_rfl, HA_1, H.1⟩, loop_lt HA_1.heap HA.heap (by kernel_rfl) (by kernel_rfl) H.2⟩
    · refine wp_exit ?_
      refine then_exit ?_
      refine then_exit ?_
      refine block_exit ?_
      refine then_normal ?_
      refine fr_eq (b := ⟨#[x0, undef, (.bool false), x3, x4, (D 0), (D 1), x4, x8, (D 4), (D 5), (D 6), (D 7), (D 8), (D 9), (D 10), (D 11), (D 12), (D 13), (D 14), (D 15), (D 16), (D 17), (D 18), (D 19), (D 20), (D 21), (D 22), (D 23), (D 24), (D 25), (D 26), (D 27), (D 28), (D 29), undef, undef, undef, undef, undef, undef, undef, undef, undef, undef, undef, undef, undef, undef, undef, undef], []⟩) (by kernel_rfl) ?_
      refine wp_seq ?_
      refine wp_seq ?_
      refine lwp_list ?_
      refine ls_move (x := x0) (by kernel_rfl) (by kernel_rfl) ?_
      refine ls_p (d := some 36) (by kernel_rfl) (by kernel_rfl) (p_sGt (by kernel_rfl) (by kernel_rfl) H) (fun x36 H => ?_)
      refine ls_move (x := x36) (by kernel_rfl) (by kernel_rfl) ?_
      refine ls_and [(), (), ()] (fun K a w => ∃ (D_5 : Nat → Value) (x40 : Value), a = ⟨#[x0, undef, (.bool false), x3, x4, (D 0), (D 1), x4, x8, (D 4), (D 5), (D 6), (D 7), (D 8), (D 9), (D 10), (D 11), (D 12), (D 13), (D 14), (D 15), (D 16), (D 17), (D 18), (D 19), (D 20), (D 21), (D 22), (D 23), (D 24), (D 25), (D 26), (D 27), (D 28), (D 29), x0, x36, x36, (D_5 0), (D_5 1), x40, undef, undef, undef, undef, undef, undef, undef, undef, undef, undef], []⟩ ∧ At w0 w h ∧ K x40) H (fun hb_4 H => ?_) (fun hb_4 H => ?_) ?_
      · refine ls_move (x := x0) (by rw [hb_4]; kernel_rfl) (by kernel_rfl) ?_
        refine ls_p (d := some 39) (by kernel_rfl) (by rw [hb_4]; kernel_rfl) (p_sLt (by kernel_rfl) (by kernel_rfl) H) (fun x39 H => ?_)
        refine ls_pick_t (x := x39) (by kernel_rfl) (by rw [hb_4]; kernel_rfl) (by kernel_rfl) ?_
        refine ls_nil ?_
        refine then_normal ?_
        exact ⟨(fun i => ([x0, x39]).getD i undef), x39, by kernel_rfl, HA, H⟩
      · refine ls_skip (d := some 38) (by kernel_rfl) (by rw [hb_4]; kernel_rfl) ?_
        refine ls_skip (d := some 39) (by kernel_rfl) (by rw [hb_4]; kernel_rfl) ?_
        refine ls_pick_f (y := (.bool false)) (by kernel_rfl) (by rw [hb_4]; kernel_rfl) (by kernel_rfl) ?_
        refine ls_nil ?_
        refine then_normal ?_
        exact ⟨(fun i => ([undef, undef]).getD i undef), (.bool false), by kernel_rfl, HA, H⟩
      · rintro _ w_6 ⟨D_5, x40, rfl, HA_6, H⟩
        refine ls_nil ?_
        refine then_normal ?_
        refine fr_eq (b := ⟨#[x0, undef, (.bool false), x3, x4, (D 0), (D 1), x4, x8, (D 4), (D 5), (D 6), (D 7), (D 8), (D 9), (D 10), (D 11), (D 12), (D 13), (D 14), (D 15), (D 16), (D 17), (D 18), (D 19), (D 20), (D 21), (D 22), (D 23), (D 24), (D 25), (D 26), (D 27), (D 28), (D 29), x0, x36, x36, (D_5 0), (D_5 1), x40, undef, undef, undef, undef, undef, undef, undef, undef, undef, undef], []⟩) (by kernel_rfl) ?_
        refine wp_if rfl H (fun H => ?_) (fun H => ?_)
        · refine wp_seq ?_
          refine lwp_list ?_
          refine ls_move (x := x3) (by kernel_rfl) (by kernel_rfl) ?_
          refine ls_p (d := some 42) (by kernel_rfl) (by kernel_rfl) (p_sEq (by kernel_rfl) (by kernel_rfl) H) (fun x42 H => ?_)
          refine ls_move (x := x42) (by kernel_rfl) (by kernel_rfl) ?_
          refine ls_andh [(), ()] (fun K a w => ∃ (D_6 : Nat → Value) (x45 : Value) (h_4 : Heap), a = ⟨#[x0, undef, (.bool false), x3, x4, (D 0), (D 1), x4, x8, (D 4), (D 5), (D 6), (D 7), (D 8), (D 9), (D 10), (D 11), (D 12), (D 13), (D 14), (D 15), (D 16), (D 17), (D 18), (D 19), (D 20), (D 21), (D 22), (D 23), (D 24), (D 25), (D 26), (D 27), (D 28), (D 29), x0, x36, x36, (D_5 0), (D_5 1), x40, x3, x42, x42, (D_6 0), x45, undef, undef, undef, undef, undef], []⟩ ∧ At w0 w h_4 ∧ K x45 h_4) H (fun hb_2 H => ?_) (fun hb_2 H => ?_) ?_
          · refine ls_d (d := some 44) (by kernel_rfl) (by rw [hb_2]; kernel_rfl) HA_6 (d_call (by kernel_rfl) (by kernel_rfl) H) (fun x44 h_5 w_8 H HA_8 => ?_)
            refine ls_pick_t (x := x44) (by kernel_rfl) (by rw [hb_2]; kernel_rfl) (by kernel_rfl) ?_
            refine ls_nil ?_
            refine then_normal ?_
            exact ⟨(fun i => ([x44]).getD i undef), x44, h_5, by kernel_rfl, HA_8, H⟩
          · refine ls_skip (d := some 44) (by kernel_rfl) (by rw [hb_2]; kernel_rfl) ?_
            refine ls_pick_f (y := (.bool false)) (by kernel_rfl) (by rw [hb_2]; kernel_rfl) (by kernel_rfl) ?_
            refine ls_nil ?_
            refine then_normal ?_
            exact ⟨(fun i => ([undef]).getD i undef), (.bool false), h, by kernel_rfl, HA_6, H⟩
          · rintro _ w_7 ⟨D_6, x45, h_4, rfl, HA_7, H⟩
            refine ls_assign (x := x45) (by kernel_rfl) (by kernel_rfl) ?_
            refine ls_nil ?_
            refine then_normal ?_
            refine fr_eq (b := ⟨#[x0, undef, x45, x3, x4, (D 0), (D 1), x4, x8, (D 4), (D 5), (D 6), (D 7), (D 8), (D 9), (D 10), (D 11), (D 12), (D 13), (D 14), (D 15), (D 16), (D 17), (D 18), (D 19), (D 20), (D 21), (D 22), (D 23), (D 24), (D 25), (D 26), (D 27), (D 28), (D 29), x0, x36, x36, (D_5 0), (D_5 1), x40, x3, x42, x42, (D_6 0), x45, undef, undef, undef, undef, undef], []⟩) (by kernel_rfl) ?_
            refine wp_ret ?_
            refine then_ret ?_
            exact end1 (Try.results7) (by kernel_rfl) (by kernel_rfl) HA_7 H _ (.inr rfl)
        · refine wp_skip ?_
          refine then_normal ?_
          refine fr_eq (b := ⟨#[x0, undef, (.bool false), x3, x4, (D 0), (D 1), x4, x8, (D 4), (D 5), (D 6), (D 7), (D 8), (D 9), (D 10), (D 11), (D 12), (D 13), (D 14), (D 15), (D 16), (D 17), (D 18), (D 19), (D 20), (D 21), (D 22), (D 23), (D 24), (D 25), (D 26), (D 27), (D 28), (D 29), x0, x36, x36, (D_5 0), (D_5 1), x40, undef, undef, undef, undef, undef, undef, undef, undef, undef, undef], []⟩) (by kernel_rfl) ?_
          refine wp_seq ?_
          refine lwp_list ?_
          refine ls_move (x := x3) (by kernel_rfl) (by kernel_rfl) ?_
          refine ls_p (d := some 47) (by kernel_rfl) (by kernel_rfl) (p_sLe (by kernel_rfl) (by kernel_rfl) H) (fun x47 H => ?_)
          refine ls_move (x := x47) (by kernel_rfl) (by kernel_rfl) ?_
          refine ls_andh [(), ()] (fun K a w => ∃ (D_7 : Nat → Value) (x50 : Value) (h_6 : Heap), a = ⟨#[x0, undef, (.bool false), x3, x4, (D 0), (D 1), x4, x8, (D 4), (D 5), (D 6), (D 7), (D 8), (D 9), (D 10), (D 11), (D 12), (D 13), (D 14), (D 15), (D 16), (D 17), (D 18), (D 19), (D 20), (D 21), (D 22), (D 23), (D 24), (D 25), (D 26), (D 27), (D 28), (D 29), x0, x36, x36, (D_5 0), (D_5 1), x40, undef, undef, undef, undef, undef, x3, x47, x47, (D_7 0), x50], []⟩ ∧ At w0 w h_6 ∧ K x50 h_6) H (fun hb_3 H => ?_) (fun hb_3 H => ?_) ?_
          · refine ls_d (d := some 49) (by kernel_rfl) (by rw [hb_3]; kernel_rfl) HA_6 (d_call (by kernel_rfl) (by kernel_rfl) H) (fun x49 h_7 w_10 H HA_10 => ?_)
            refine ls_pick_t (x := x49) (by kernel_rfl) (by rw [hb_3]; kernel_rfl) (by kernel_rfl) ?_
            refine ls_nil ?_
            refine then_normal ?_
            exact ⟨(fun i => ([x49]).getD i undef), x49, h_7, by kernel_rfl, HA_10, H⟩
          · refine ls_skip (d := some 49) (by kernel_rfl) (by rw [hb_3]; kernel_rfl) ?_
            refine ls_pick_f (y := (.bool false)) (by kernel_rfl) (by rw [hb_3]; kernel_rfl) (by kernel_rfl) ?_
            refine ls_nil ?_
            refine then_normal ?_
            exact ⟨(fun i => ([undef]).getD i undef), (.bool false), h, by kernel_rfl, HA_6, H⟩
          · rintro _ w_9 ⟨D_7, x50, h_6, rfl, HA_9, H⟩
            refine ls_assign (x := x50) (by kernel_rfl) (by kernel_rfl) ?_
            refine ls_nil ?_
            refine then_normal ?_
            refine fr_eq (b := ⟨#[x0, undef, x50, x3, x4, (D 0), (D 1), x4, x8, (D 4), (D 5), (D 6), (D 7), (D 8), (D 9), (D 10), (D 11), (D 12), (D 13), (D 14), (D 15), (D 16), (D 17), (D 18), (D 19), (D 20), (D 21), (D 22), (D 23), (D 24), (D 25), (D 26), (D 27), (D 28), (D 29), x0, x36, x36, (D_5 0), (D_5 1), x40, undef, undef, undef, undef, undef, x3, x47, x47, (D_7 0), x50], []⟩) (by kernel_rfl) ?_
            refine wp_ret ?_
            exact end1 (Try.results7) (by kernel_rfl) (by kernel_rfl) HA_9 H _ (.inr rfl)

end Go.Proofs.Ytbgipcikkedloaa
