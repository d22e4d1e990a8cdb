/- The shallow reading of one function, and that the function does it. Written by a program. -/
import Derived.Test.YthhpieidlpjbmaaFnC
set_option linter.unusedVariables false
namespace Go.Proofs.Ythhpieidlpjbmaa
open Go Go.HW

def betonylaw19_OpostStays_l1 (R : Value → Heap → Prop) (x0 x1 x2 : Value) (next : Value → Heap → Prop) (x9 : Value) (h_3 : Heap) : Prop :=
  sLen x2 fun x38 =>
  sLt x9 x38 fun x39 =>
  sIf x39 (sIxS x2 x9 1 fun x44 =>
  sLd h_3 x44 fun x45 =>
  sLt x45 (.int .u8 32) fun x46 =>
  sOr x46 (fun k =>
  sIxS x2 x9 1 fun x50 =>
  sLd h_3 x50 fun x51 =>
  sGt x51 (.int .u8 126) fun x52 =>
  k x52) fun x53 =>
  sIf x53 (betonylaw19_awake_c  h_3 fun x54 h_4 => 
  R x54 h_4) (sAdd .i64 x9 (.int .i64 1) fun x41 =>
  next x41 h_3)) (sBits .or .i64 x0 (.int .i64 1) fun x57 =>
  opost_Bytes_c x57 x1 x2 h_3 fun x60 h_5 => 
  sTup x60 0 fun x61 =>
  sTup x60 1 fun x62 =>
  betonyref01_Same_c x61 x2 h_5 fun x65 h_6 => 
  sAnd x65 (fun k_2 =>
  sLen x2 fun x70 =>
  sAdd .i64 x1 x70 fun x71 =>
  sEq x62 x71 fun x72 =>
  k_2 x72) fun x73 =>
  sAndH x73 h_6 (fun k_1 =>
  betonylaw19_awake_c  h_6 fun x75 h_8 => 
  k_1 x75 h_8) fun x76 h_7 =>
  R x76 h_7)
def betonylaw19_OpostStays_S (x0 x1 x2 : Value) (h : Heap) (R : Value → Heap → Prop) : Prop :=
  sLen x2 fun x13 =>
  sGt x13 (.int .i64 300) fun x14 =>
  sOr x14 (fun k_4 =>
  sLt x1 (.int .i64 0) fun x17 =>
  k_4 x17) fun x18 =>
  sOr x18 (fun k_3 =>
  sGt x1 (.int .i64 1048576) fun x21 =>
  k_3 x21) fun x22 =>
  sIf x22 (betonylaw19_awake_c  h fun x23 h => 
  R x23 h) (sBits .andNot .i64 x0 (.int .i64 1) fun x26 =>
  opost_Bytes_c x26 x1 x2 h fun x29 h_1 => 
  sTup x29 0 fun x30 =>
  sTup x29 1 fun x31 =>
  betonyref01_Same_c x30 x2 h_1 fun x34 h_2 => 
  sNot x34 fun x35 =>
  sIf x35 (R (.bool false) h_2) (sLoop (S := Value) (fun nxt s h => betonylaw19_OpostStays_l1 R x0 x1 x2 (fun x9' h => nxt x9' h) s h) (.int .i64 0) h_2))
set_option maxRecDepth 100000 in
theorem betonylaw19_OpostStays_runs {x0 x1 x2 : Value} {h : Heap} {R : Value → Heap → Prop} (H : betonylaw19_OpostStays_S x0 x1 x2 h R) : betonylaw19_OpostStays_c x0 x1 x2 h R := by
  unfold betonylaw19_OpostStays_S at H
  refine runs_of (b := ⟨([x0, x1, x2, undef, undef, undef, undef, undef, undef, undef, undef, undef, undef, undef, undef, undef, undef, undef, undef, undef, undef, undef, undef, undef, undef, undef, undef, undef, undef, undef, undef, undef, undef, undef, undef, undef, undef, undef, undef, undef, undef, undef, undef, undef, undef, undef, undef, undef, undef, undef] ++ [undef, undef, undef, undef, undef, undef, undef, undef, undef, undef, undef, undef, undef, undef, undef, undef, undef, undef, undef, undef, undef, undef, undef, undef, undef, undef, undef]).toArray, []⟩) Try.call8 Try.func8 rfl (by kernel_rfl) (fun w0 HA => ?_)
  refine wp_seq ?_
  refine lwp_list ?_
  refine ls_assign (x := (.bool false)) (by kernel_rfl) (by kernel_rfl) ?_
  refine ls_nil ?_
  refine then_normal ?_
  refine fr_eq (b := ⟨([x0, x1, x2, undef, undef, undef, (.bool false), undef, undef, undef, undef, undef, undef, undef, undef, undef, undef, undef, undef, undef, undef, undef, undef, undef, undef, undef, undef, undef, undef, undef, undef, undef, undef, undef, undef, undef, undef, undef, undef, undef, undef, undef, undef, undef, undef, undef, undef, undef, undef, undef] ++ [undef, undef, undef, undef, undef, undef, undef, undef, undef, undef, undef, undef, undef, undef, undef, undef, undef, undef, undef, undef, undef, undef, undef, undef, undef, undef, undef]).toArray, []⟩) (by kernel_rfl) ?_
  refine wp_seq ?_
  refine wp_seq ?_
  refine lwp_list ?_
  refine ls_move (x := x2) (by kernel_rfl) (by kernel_rfl) ?_
  refine ls_p (d := some 13) (by kernel_rfl) (by kernel_rfl) (p_len Try.underlying56 (by kernel_rfl) H) (fun x13 H => ?_)
  refine ls_p (d := some 14) (by kernel_rfl) (by kernel_rfl) (p_sGt (by kernel_rfl) (by kernel_rfl) H) (fun x14 H => ?_)
  refine ls_move (x := x14) (by kernel_rfl) (by kernel_rfl) ?_
  refine ls_or [(), (), ()] (fun K a w => ∃ (D : Nat → Value) (x18 : Value), a = ⟨([x0, x1, x2, undef, undef, undef, (.bool false), undef, undef, undef, undef, undef, x2, x13, x14, x14, (D 0), (D 1), x18, undef, undef, undef, undef, undef, undef, undef, undef, undef, undef, undef, undef, undef, undef, undef, undef, undef, undef, undef, undef, undef, undef, undef, undef, undef, undef, undef, undef, undef, undef, undef] ++ [undef, undef, undef, undef, undef, undef, undef, undef, undef, undef, undef, undef, undef, undef, undef, undef, undef, undef, undef, undef, undef, undef, undef, undef, undef, undef, undef]).toArray, []⟩ ∧ At w0 w h ∧ K x18) H (fun hb_4 H => ?_) (fun hb_4 H => ?_) ?_
  · refine ls_move (x := x1) (by rw [hb_4]; kernel_rfl) (by kernel_rfl) ?_
    refine ls_p (d := some 17) (by kernel_rfl) (by rw [hb_4]; kernel_rfl) (p_sLt (by kernel_rfl) (by kernel_rfl) H) (fun x17 H => ?_)
    refine ls_fr (b := ⟨([x0, x1, x2, undef, undef, undef, (.bool false), undef, undef, undef, undef, undef, x2, x13, x14, x14, x1, x17, undef, undef, undef, undef, undef, undef, undef, undef, undef, undef, undef, undef, undef, undef, undef, undef, undef, undef, undef, undef, undef, undef, undef, undef, undef, undef, undef, undef, undef, undef, undef, undef] ++ [undef, undef, undef, undef, undef, undef, undef, undef, undef, undef, undef, undef, undef, undef, undef, undef, undef, undef, undef, undef, undef, undef, undef, undef, undef, undef, undef]).toArray, []⟩) (by kernel_rfl) ?_
    refine ls_pick_f (y := x17) (by kernel_rfl) (by rw [hb_4]; kernel_rfl) (by kernel_rfl) ?_
    refine ls_nil ?_
    refine then_normal ?_
    exact ⟨(fun i => ([x1, x17]).getD i undef), x17, by kernel_rfl, HA, H⟩
  · refine ls_skip (d := some 16) (by kernel_rfl) (by rw [hb_4]; kernel_rfl) ?_
    refine ls_skip (d := some 17) (by kernel_rfl) (by rw [hb_4]; kernel_rfl) ?_
    refine ls_fr (b := ⟨([x0, x1, x2, undef, undef, undef, (.bool false), undef, undef, undef, undef, undef, x2, x13, x14, x14, undef, undef, undef, undef, undef, undef, undef, undef, undef, undef, undef, undef, undef, undef, undef, undef, undef, undef, undef, undef, undef, undef, undef, undef, undef, undef, undef, undef, undef, undef, undef, undef, undef, undef] ++ [undef, undef, undef, undef, undef, undef, undef, undef, undef, undef, undef, undef, undef, undef, undef, undef, undef, undef, undef, undef, undef, undef, undef, undef, undef, undef, undef]).toArray, []⟩) (by kernel_rfl) ?_
    refine ls_pick_t (x := (.bool true)) (by kernel_rfl) (by rw [hb_4]; kernel_rfl) (by kernel_rfl) ?_
    refine ls_nil ?_
    refine then_normal ?_
    exact ⟨(fun i => ([undef, undef]).getD i undef), (.bool true), by kernel_rfl, HA, H⟩
  · rintro _ w ⟨D, x18, rfl, HA, H⟩
    refine ls_move (x := x18) (by kernel_rfl) (by kernel_rfl) ?_
    refine ls_or [(), (), ()] (fun K a w => ∃ (D_1 : Nat → Value) (x22 : Value), a = ⟨([x0, x1, x2, undef, undef, undef, (.bool false), undef, undef, undef, undef, undef, x2, x13, x14, x14, (D 0), (D 1), x18, x18, (D_1 0), (D_1 1), x22, undef, undef, undef, undef, undef, undef, undef, undef, undef, undef, undef, undef, undef, undef, undef, undef, undef, undef, undef, undef, undef, undef, undef, undef, undef, undef, undef] ++ [undef, undef, undef, undef, undef, undef, undef, undef, undef, undef, undef, undef, undef, undef, undef, undef, undef, undef, undef, undef, undef, undef, undef, undef, undef, undef, undef]).toArray, []⟩ ∧ At w0 w h ∧ K x22) H (fun hb_3 H => ?_) (fun hb_3 H => ?_) ?_
    · refine ls_move (x := x1) (by rw [hb_3]; kernel_rfl) (by kernel_rfl) ?_
      refine ls_p (d := some 21) (by kernel_rfl) (by rw [hb_3]; kernel_rfl) (p_sGt (by kernel_rfl) (by kernel_rfl) H) (fun x21 H => ?_)
      refine ls_pick_f (y := x21) (by kernel_rfl) (by rw [hb_3]; kernel_rfl) (by kernel_rfl) ?_
      refine ls_nil ?_
      refine then_normal ?_
      exact ⟨(fun i => ([x1, x21]).getD i undef), x21, by kernel_rfl, HA, H⟩
    · refine ls_skip (d := some 20) (by kernel_rfl) (by rw [hb_3]; kernel_rfl) ?_
      refine ls_skip (d := some 21) (by kernel_rfl) (by rw [hb_3]; kernel_rfl) ?_
      refine ls_pick_t (x := (.bool true)) (by kernel_rfl) (by rw [hb_3]; kernel_rfl) (by kernel_rfl) ?_
      refine ls_nil ?_
      refine then_normal ?_
      exact ⟨(fun i => ([undef, undef]).getD i undef), (.bool true), by kernel_rfl, HA, H⟩
    · rintro _ w_1 ⟨D_1, x22, rfl, HA_1, H⟩
      refine ls_nil ?_
      refine then_normal ?_
      refine fr_eq (b := ⟨([x0, x1, x2, undef, undef, undef, (.bool false), undef, undef, undef, undef, undef, x2, x13, x14, x14, (D 0), (D 1), x18, x18, (D_1 0), (D_1 1), x22, undef, undef, undef, undef, undef, undef, undef, undef, undef, undef, undef, undef, undef, undef, undef, undef, undef, undef, undef, undef, undef, undef, undef, undef, undef, undef, undef] ++ [undef, undef, undef, undef, undef, undef, undef, undef, undef, undef, undef, undef, undef, undef, undef, undef, undef, undef, undef, undef, undef, undef, undef, undef, undef, undef, undef]).toArray, []⟩) (by kernel_rfl) ?_
      refine wp_if rfl H (fun H => ?_) (fun H => ?_)
      · refine wp_seq ?_
        refine lwp_list ?_
        refine ls_d (d := some 23) (by kernel_rfl) (by kernel_rfl) HA_1 (d_call (by kernel_rfl) (by kernel_rfl) H) (fun x23 h w_2 H HA_2 => ?_)
        refine ls_assign (x := x23) (by kernel_rfl) (by kernel_rfl) ?_
        refine ls_nil ?_
        refine then_normal ?_
        refine fr_eq (b := ⟨([x0, x1, x2, undef, undef, undef, x23, undef, undef, undef, undef, undef, x2, x13, x14, x14, (D 0), (D 1), x18, x18, (D_1 0), (D_1 1), x22, x23, undef, undef, undef, undef, undef, undef, undef, undef, undef, undef, undef, undef, undef, undef, undef, undef, undef, undef, undef, undef, undef, undef, undef, undef, undef, undef] ++ [undef, undef, undef, undef, undef, undef, undef, undef, undef, undef, undef, undef, undef, undef, undef, undef, undef, undef, undef, undef, undef, undef, undef, undef, undef, undef, undef]).toArray, []⟩) (by kernel_rfl) ?_
        refine wp_ret ?_
        refine then_ret ?_
        exact end1 (Try.results8) (by kernel_rfl) (by kernel_rfl) HA_2 H _ (.inr rfl)
      · refine wp_skip ?_
        refine then_normal ?_
        refine fr_eq (b := ⟨([x0, x1, x2, undef, undef, undef, (.bool false), undef, undef, undef, undef, undef, x2, x13, x14, x14, (D 0), (D 1), x18, x18, (D_1 0), (D_1 1), x22, undef, undef, undef, undef, undef, undef, undef, undef, undef, undef, undef, undef, undef, undef, undef, undef, undef, undef, undef, undef, undef, undef, undef, undef, undef, undef, undef] ++ [undef, undef, undef, undef, undef, undef, undef, undef, undef, undef, undef, undef, undef, undef, undef, undef, undef, undef, undef, undef, undef, undef, undef, undef, undef, undef, undef]).toArray, []⟩) (by kernel_rfl) ?_
        refine wp_seq ?_
        refine lwp_list ?_
        refine ls_move (x := x0) (by kernel_rfl) (by kernel_rfl) ?_
        refine ls_p (d := some 26) (by kernel_rfl) (by kernel_rfl) (p_bits (by decide) (by kernel_rfl) (by kernel_rfl) H) (fun x26 H => ?_)
        refine ls_move (x := x1) (by kernel_rfl) (by kernel_rfl) ?_
        refine ls_move (x := x2) (by kernel_rfl) (by kernel_rfl) ?_
        refine ls_d (d := some 29) (by kernel_rfl) (by kernel_rfl) HA_1 (d_call (by kernel_rfl) (by kernel_rfl) H) (fun x29 h_1 w_3 H HA_3 => ?_)
        refine ls_move (x := x29) (by kernel_rfl) (by kernel_rfl) ?_
        refine ls_fr (b := ⟨([x0, x1, x2, undef, undef, undef, (.bool false), undef, undef, undef, undef, undef, x2, x13, x14, x14, (D 0), (D 1), x18, x18, (D_1 0), (D_1 1), x22, undef, x29, x0, x26, x1, x2, x29, undef, undef, undef, undef, undef, undef, undef, undef, undef, undef, undef, undef, undef, undef, undef, undef, undef, undef, undef, undef] ++ [undef, undef, undef, undef, undef, undef, undef, undef, undef, undef, undef, undef, undef, undef, undef, undef, undef, undef, undef, undef, undef, undef, undef, undef, undef, undef, undef]).toArray, []⟩) (by kernel_rfl) ?_
        refine ls_p (d := some 30) (by kernel_rfl) (by kernel_rfl) (p_tup (by kernel_rfl) H) (fun x30 H => ?_)
        refine ls_p (d := some 31) (by kernel_rfl) (by kernel_rfl) (p_tup (by kernel_rfl) H) (fun x31 H => ?_)
        refine ls_assign (x := x30) (by kernel_rfl) (by kernel_rfl) ?_
        refine ls_assign (x := x31) (by kernel_rfl) (by kernel_rfl) ?_
        refine ls_nil ?_
        refine then_normal ?_
        refine fr_eq (b := ⟨([x0, x1, x2, undef, undef, undef, (.bool false), x30, x31, undef, undef, undef, x2, x13, x14, x14, (D 0), (D 1), x18, x18, (D_1 0), (D_1 1), x22, undef, x29, x0, x26, x1, x2, x29, x30, x31, undef, undef, undef, undef, undef, undef, undef, undef, undef, undef, undef, undef, undef, undef, undef, undef, undef, undef] ++ [undef, undef, undef, undef, undef, undef, undef, undef, undef, undef, undef, undef, undef, undef, undef, undef, undef, undef, undef, undef, undef, undef, undef, undef, undef, undef, undef]).toArray, []⟩) (by kernel_rfl) ?_
        refine wp_seq ?_
        refine wp_seq ?_
        refine lwp_list ?_
        refine ls_move (x := x30) (by kernel_rfl) (by kernel_rfl) ?_
        refine ls_move (x := x2) (by kernel_rfl) (by kernel_rfl) ?_
        refine ls_d (d := some 34) (by kernel_rfl) (by kernel_rfl) HA_3 (d_call (by kernel_rfl) (by kernel_rfl) H) (fun x34 h_2 w_4 H HA_4 => ?_)
        refine ls_p (d := some 35) (by kernel_rfl) (by kernel_rfl) (p_not (by kernel_rfl) H) (fun x35 H => ?_)
        refine ls_nil ?_
        refine then_normal ?_
        refine fr_eq (b := ⟨([x0, x1, x2, undef, undef, undef, (.bool false), x30, x31, undef, undef, undef, x2, x13, x14, x14, (D 0), (D 1), x18, x18, (D_1 0), (D_1 1), x22, undef, x29, x0, x26, x1, x2, x29, x30, x31, x30, x2, x34, x35, undef, undef, undef, undef, undef, undef, undef, undef, undef, undef, undef, undef, undef, undef] ++ [undef, undef, undef, undef, undef, undef, undef, undef, undef, undef, undef, undef, undef, undef, undef, undef, undef, undef, undef, undef, undef, undef, undef, undef, undef, undef, undef]).toArray, []⟩) (by kernel_rfl) ?_
        refine wp_if rfl H (fun H => ?_) (fun H => ?_)
        · refine wp_seq ?_
          refine lwp_list ?_
          refine ls_assign (x := (.bool false)) (by kernel_rfl) (by kernel_rfl) ?_
          refine ls_nil ?_
          refine then_normal ?_
          refine fr_eq (b := ⟨([x0, x1, x2, undef, undef, undef, (.bool false), x30, x31, undef, undef, undef, x2, x13, x14, x14, (D 0), (D 1), x18, x18, (D_1 0), (D_1 1), x22, undef, x29, x0, x26, x1, x2, x29, x30, x31, x30, x2, x34, x35, undef, undef, undef, undef, undef, undef, undef, undef, undef, undef, undef, undef, undef, undef] ++ [undef, undef, undef, undef, undef, undef, undef, undef, undef, undef, undef, undef, undef, undef, undef, undef, undef, undef, undef, undef, undef, undef, undef, undef, undef, undef, undef]).toArray, []⟩) (by kernel_rfl) ?_
          refine wp_ret ?_
          refine then_ret ?_
          exact end1 (Try.results8) (by kernel_rfl) (by kernel_rfl) HA_4 H _ (.inr rfl)
        · refine wp_skip ?_
          refine then_normal ?_
          refine fr_eq (b := ⟨([x0, x1, x2, undef, undef, undef, (.bool false), x30, x31, undef, undef, undef, x2, x13, x14, x14, (D 0), (D 1), x18, x18, (D_1 0), (D_1 1), x22, undef, x29, x0, x26, x1, x2, x29, x30, x31, x30, x2, x34, x35, undef, undef, undef, undef, undef, undef, undef, undef, undef, undef, undef, undef, undef, undef] ++ [undef, undef, undef, undef, undef, undef, undef, undef, undef, undef, undef, undef, undef, undef, undef, undef, undef, undef, undef, undef, undef, undef, undef, undef, undef, undef, undef]).toArray, []⟩) (by kernel_rfl) ?_
          refine wp_seq ?_
          refine wp_seq ?_
          refine lwp_list ?_
          refine ls_assign (x := (.int .i64 0)) (by kernel_rfl) (by kernel_rfl) ?_
          refine ls_nil ?_
          refine then_normal ?_
          refine fr_eq (b := ⟨([x0, x1, x2, undef, undef, undef, (.bool false), x30, x31, (.int .i64 0), undef, undef, x2, x13, x14, x14, (D 0), (D 1), x18, x18, (D_1 0), (D_1 1), x22, undef, x29, x0, x26, x1, x2, x29, x30, x31, x30, x2, x34, x35, undef, undef, undef, undef, undef, undef, undef, undef, undef, undef, undef, undef, undef, undef] ++ [undef, undef, undef, undef, undef, undef, undef, undef, undef, undef, undef, undef, undef, undef, undef, undef, undef, undef, undef, undef, undef, undef, undef, undef, undef, undef, undef]).toArray, []⟩) (by kernel_rfl) ?_
          refine wp_block ?_
          obtain ⟨I, m, H0, HB⟩ := H
          refine wp_loop (fun a w => ∃ (D_2 : Nat → Value) (x9 : Value) (h_3 : Heap), a = ⟨([x0, x1, x2, undef, undef, undef, (D_2 0), x30, x31, x9, undef, undef, x2, x13, x14, x14, (D 0), (D 1), x18, x18, (D_1 0), (D_1 1), x22, undef, x29, x0, x26, x1, x2, x29, x30, x31, x30, x2, x34, x35, (D_2 1), (D_2 2), (D_2 3), (D_2 4), (D_2 5), (D_2 6), (D_2 7), (D_2 8), (D_2 9), (D_2 10), (D_2 11), (D_2 12), (D_2 13), (D_2 14)] ++ [(D_2 15), (D_2 16), (D_2 17), (D_2 18), (D_2 19), undef, undef, undef, undef, undef, undef, undef, undef, undef, undef, undef, undef, undef, undef, undef, undef, undef, undef, undef, undef, undef, undef]).toArray, []⟩ ∧ At w0 w h_3 ∧ I x9 h_3) (fun a w => m (a.tmps.getD 9 undef) w.heap) ?_ ?_
          · exact ⟨(fun i => ([(.bool false), undef, undef, undef, undef, undef, undef, undef, undef, undef, undef, undef, undef, undef, undef, undef, undef, undef, undef, undef]).getD i undef), (.int .i64 0), h_2, by kernel_rfl, HA_4, H0⟩
          · rintro _ w_5 ⟨D_2, x9, h_3, rfl, HA_5, HI⟩
            have H : betonylaw19_OpostStays_l1 R x0 x1 x2 (fun x9' h' => I x9' h' ∧ m x9' h' < m x9 h_3) x9 h_3 := HB x9 h_3 HI
            clear HB H0 HI
            unfold betonylaw19_OpostStays_l1 at H
            refine wp_seq ?_
            refine wp_seq ?_
            refine lwp_list ?_
            refine ls_move (x := x9) (by kernel_rfl) (by kernel_rfl) ?_
            refine ls_move (x := x2) (by kernel_rfl) (by kernel_rfl) ?_
            refine ls_p (d := some 38) (by kernel_rfl) (by kernel_rfl) (p_len Try.underlying56 (by kernel_rfl) H) (fun x38 H => ?_)
            refine ls_p (d := some 39) (by kernel_rfl) (by kernel_rfl) (p_sLt (by kernel_rfl) (by kernel_rfl) H) (fun x39 H => ?_)
            refine ls_nil ?_
            refine then_normal ?_
            refine fr_eq (b := ⟨([x0, x1, x2, undef, undef, undef, (D_2 0), x30, x31, x9, undef, undef, x2, x13, x14, x14, (D 0), (D 1), x18, x18, (D_1 0), (D_1 1), x22, undef, x29, x0, x26, x1, x2, x29, x30, x31, x30, x2, x34, x35, x9, x2, x38, x39, (D_2 5), (D_2 6), (D_2 7), (D_2 8), (D_2 9), (D_2 10), (D_2 11), (D_2 12), (D_2 13), (D_2 14)] ++ [(D_2 15), (D_2 16), (D_2 17), (D_2 18), (D_2 19), undef, undef, undef, undef, undef, undef, undef, undef, undef, undef, undef, undef, undef, undef, undef, undef, undef, undef, undef, undef, undef, undef]).toArray, []⟩) (by kernel_rfl) ?_
            refine wp_if rfl H (fun H => ?_) (fun H => ?_)
            · refine wp_skip ?_
              refine then_normal ?_
              refine fr_eq (b := ⟨([x0, x1, x2, undef, undef, undef, (D_2 0), x30, x31, x9, undef, undef, x2, x13, x14, x14, (D 0), (D 1), x18, x18, (D_1 0), (D_1 1), x22, undef, x29, x0, x26, x1, x2, x29, x30, x31, x30, x2, x34, x35, x9, x2, x38, x39, (D_2 5), (D_2 6), (D_2 7), (D_2 8), (D_2 9), (D_2 10), (D_2 11), (D_2 12), (D_2 13), (D_2 14)] ++ [(D_2 15), (D_2 16), (D_2 17), (D_2 18), (D_2 19), undef, undef, undef, undef, undef, undef, undef, undef, undef, undef, undef, undef, undef, undef, undef, undef, undef, undef, undef, undef, undef, undef]).toArray, []⟩) (by kernel_rfl) ?_
              refine wp_seq ?_
              refine wp_block ?_
              refine wp_seq ?_
              refine lwp_list ?_
              refine ls_move (x := x2) (by kernel_rfl) (by kernel_rfl) ?_
              refine ls_move (x := x9) (by kernel_rfl) (by kernel_rfl) ?_
              refine ls_p (d := some 44) (by kernel_rfl) (by kernel_rfl) (p_ixs Try.underlying56 Try.sizeOf5 (by kernel_rfl) (by kernel_rfl) H) (fun x44 H => ?_)
              refine ls_y (d := some 45) (by kernel_rfl) (by kernel_rfl) HA_5 (y_ld Try.isAgg5 (by kernel_rfl) H) (fun x45 H => ?_)
              refine ls_p (d := some 46) (by kernel_rfl) (by kernel_rfl) (p_sLt (by kernel_rfl) (by kernel_rfl) H) (fun x46 H => ?_)
              refine ls_move (x := x46) (by kernel_rfl) (by kernel_rfl) ?_
              refine ls_fr (b := ⟨([x0, x1, x2, undef, undef, undef, (D_2 0), x30, x31, x9, undef, undef, x2, x13, x14, x14, (D 0), (D 1), x18, x18, (D_1 0), (D_1 1), x22, undef, x29, x0, x26, x1, x2, x29, x30, x31, x30, x2, x34, x35, x9, x2, x38, x39, (D_2 5), (D_2 6), x2, x9, x44, x45, x46, x46, (D_2 13), (D_2 14)] ++ [(D_2 15), (D_2 16), (D_2 17), (D_2 18), (D_2 19), undef, undef, undef, undef, undef, undef, undef, undef, undef, undef, undef, undef, undef, undef, undef, undef, undef, undef, undef, undef, undef, undef]).toArray, []⟩) (by kernel_rfl) ?_
              refine ls_or [(), (), (), (), (), ()] (fun K a w => ∃ (D_3 : Nat → Value) (x53 : Value), a = ⟨([x0, x1, x2, undef, undef, undef, (D_2 0), x30, x31, x9, undef, undef, x2, x13, x14, x14, (D 0), (D 1), x18, x18, (D_1 0), (D_1 1), x22, undef, x29, x0, x26, x1, x2, x29, x30, x31, x30, x2, x34, x35, x9, x2, x38, x39, (D_2 5), (D_2 6), x2, x9, x44, x45, x46, x46, (D_3 0), (D_3 1)] ++ [(D_3 2), (D_3 3), (D_3 4), x53, (D_2 19), undef, undef, undef, undef, undef, undef, undef, undef, undef, undef, undef, undef, undef, undef, undef, undef, undef, undef, undef, undef, undef, undef]).toArray, []⟩ ∧ At w0 w h_3 ∧ K x53) H (fun hb H => ?_) (fun hb H => ?_) ?_
              · refine ls_move (x := x2) (by rw [hb]; kernel_rfl) (by kernel_rfl) ?_
                refine ls_move (x := x9) (by rw [hb]; kernel_rfl) (by kernel_rfl) ?_
                refine ls_p (d := some 50) (by kernel_rfl) (by rw [hb]; kernel_rfl) (p_ixs Try.underlying56 Try.sizeOf5 (by kernel_rfl) (by kernel_rfl) H) (fun x50 H => ?_)
                refine ls_y (d := some 51) (by kernel_rfl) (by rw [hb]; kernel_rfl) HA_5 (y_ld Try.isAgg5 (by kernel_rfl) H) (fun x51 H => ?_)
                refine ls_p (d := some 52) (by kernel_rfl) (by rw [hb]; kernel_rfl) (p_sGt (by kernel_rfl) (by kernel_rfl) H) (fun x52 H => ?_)
                refine ls_pick_f (y := x52) (by kernel_rfl) (by rw [hb]; kernel_rfl) (by kernel_rfl) ?_
                refine ls_nil ?_
                refine then_normal ?_
                exact ⟨(fun i => ([x2, x9, x50, x51, x52]).getD i undef), x52, by kernel_rfl, HA_5, H⟩
              · refine ls_skip (d := some 48) (by kernel_rfl) (by rw [hb]; kernel_rfl) ?_
                refine ls_skip (d := some 49) (by kernel_rfl) (by rw [hb]; kernel_rfl) ?_
                refine ls_skip (d := some 50) (by kernel_rfl) (by rw [hb]; kernel_rfl) ?_
                refine ls_skip (d := some 51) (by kernel_rfl) (by rw [hb]; kernel_rfl) ?_
                refine ls_skip (d := some 52) (by kernel_rfl) (by rw [hb]; kernel_rfl) ?_
                refine ls_pick_t (x := (.bool true)) (by kernel_rfl) (by rw [hb]; kernel_rfl) (by kernel_rfl) ?_
                refine ls_nil ?_
                refine then_normal ?_
                exact ⟨(fun i => ([undef, undef, undef, undef, undef]).getD i undef), (.bool true), by kernel_rfl, HA_5, H⟩
              · rintro _ w_6 ⟨D_3, x53, rfl, HA_6, H⟩
                refine ls_nil ?_
                refine then_normal ?_
                refine fr_eq (b := ⟨([x0, x1, x2, undef, undef, undef, (D_2 0), x30, x31, x9, undef, undef, x2, x13, x14, x14, (D 0), (D 1), x18, x18, (D_1 0), (D_1 1), x22, undef, x29, x0, x26, x1, x2, x29, x30, x31, x30, x2, x34, x35, x9, x2, x38, x39, (D_2 5), (D_2 6), x2, x9, x44, x45, x46, x46, (D_3 0), (D_3 1)] ++ [(D_3 2), (D_3 3), (D_3 4), x53, (D_2 19), undef, undef, undef, undef, undef, undef, undef, undef, undef, undef, undef, undef, undef, undef, undef, undef, undef, undef, undef, undef, undef, undef]).toArray, []⟩) (by kernel_rfl) ?_
                refine wp_if rfl H (fun H => ?_) (fun H => ?_)
                · refine wp_seq ?_
                  refine lwp_list ?_
                  refine ls_d (d := some 54) (by kernel_rfl) (by kernel_rfl) HA_6 (d_call (by kernel_rfl) (by kernel_rfl) H) (fun x54 h_4 w_7 H HA_7 => ?_)
                  refine ls_assign (x := x54) (by kernel_rfl) (by kernel_rfl) ?_
                  refine ls_nil ?_
                  refine then_normal ?_
                  refine fr_eq (b := ⟨([x0, x1, x2, undef, undef, undef, x54, x30, x31, x9, undef, undef, x2, x13, x14, x14, (D 0), (D 1), x18, x18, (D_1 0), (D_1 1), x22, undef, x29, x0, x26, x1, x2, x29, x30, x31, x30, x2, x34, x35, x9, x2, x38, x39, (D_2 5), (D_2 6), x2, x9, x44, x45, x46, x46, (D_3 0), (D_3 1)] ++ [(D_3 2), (D_3 3), (D_3 4), x53, x54, undef, undef, undef, undef, undef, undef, undef, undef, undef, undef, undef, undef, undef, undef, undef, undef, undef, undef, undef, undef, undef, undef]).toArray, []⟩) (by kernel_rfl) ?_
                  refine wp_ret ?_
                  refine block_ret ?_
                  refine then_ret ?_
                  refine then_ret ?_
                  refine block_ret ?_
                  refine then_ret ?_
                  exact end1 (Try.results8) (by kernel_rfl) (by kernel_rfl) HA_7 H _ (.inr rfl)
                · refine wp_skip ?_
                  refine block_normal ?_
                  refine then_normal ?_
                  refine fr_eq (b := ⟨([x0, x1, x2, undef, undef, undef, (D_2 0), x30, x31, x9, undef, undef, x2, x13, x14, x14, (D 0), (D 1), x18, x18, (D_1 0), (D_1 1), x22, undef, x29, x0, x26, x1, x2, x29, x30, x31, x30, x2, x34, x35, x9, x2, x38, x39, (D_2 5), (D_2 6), x2, x9, x44, x45, x46, x46, (D_3 0), (D_3 1)] ++ [(D_3 2), (D_3 3), (D_3 4), x53, (D_2 19), undef, undef, undef, undef, undef, undef, undef, undef, undef, undef, undef, undef, undef, undef, undef, undef, undef, undef, undef, undef, undef, undef]).toArray, []⟩) (by kernel_rfl) ?_
                  refine lwp_list ?_
                  refine ls_move (x := x9) (by kernel_rfl) (by kernel_rfl) ?_
                  refine ls_p (d := some 41) (by kernel_rfl) (by kernel_rfl) (p_add (by kernel_rfl) (by kernel_rfl) H) (fun x41 H => ?_)
                  refine ls_assign (x := x41) (by kernel_rfl) (by kernel_rfl) ?_
                  refine ls_nil ?_
                  exact ⟨⟨(fun i => ([(D_2 0), x9, x2, x38, x39, x9, x41, x2, x9, x44, x45, x46, x46, (D_3 0), (D_3 1), (D_3 2), (D_3 3), (D_3 4), x53, (D_2 19)]).getD i undef), x41, h_3, by kernel_rfl, HA_6, H.1⟩, loop_lt HA_6.heap HA_5.heap (by kernel_rfl) (by kernel_rfl) H.2⟩
            · refine wp_exit ?_
              refine then_exit ?_
              refine then_exit ?_
              refine block_exit ?_
              refine then_normal ?_
              refine fr_eq (b := ⟨([x0, x1, x2, undef, undef, undef, (D_2 0), x30, x31, x9, undef, undef, x2, x13, x14, x14, (D 0), (D 1), x18, x18, (D_1 0), (D_1 1), x22, undef, x29, x0, x26, x1, x2, x29, x30, x31, x30, x2, x34, x35, x9, x2, x38, x39, (D_2 5), (D_2 6), (D_2 7), (D_2 8), (D_2 9), (D_2 10), (D_2 11), (D_2 12), (D_2 13), (D_2 14)] ++ [(D_2 15), (D_2 16), (D_2 17), (D_2 18), (D_2 19), undef, undef, undef, undef, undef, undef, undef, undef, undef, undef, undef, undef, undef, undef, undef, undef, undef, undef, undef, undef, undef, undef]).toArray, []⟩) (by kernel_rfl) ?_
              refine wp_seq ?_
              refine lwp_list ?_
              refine ls_move (x := x0) (by kernel_rfl) (by kernel_rfl) ?_
              refine ls_p (d := some 57) (by kernel_rfl) (by kernel_rfl) (p_bits (by decide) (by kernel_rfl) (by kernel_rfl) H) (fun x57 H => ?_)
              refine ls_move (x := x1) (by kernel_rfl) (by kernel_rfl) ?_
              refine ls_move (x := x2) (by kernel_rfl) (by kernel_rfl) ?_
              refine ls_d (d := some 60) (by kernel_rfl) (by kernel_rfl) HA_5 (d_call (by kernel_rfl) (by kernel_rfl) H) (fun x60 h_5 w_8 H HA_8 => ?_)
              refine ls_move (x := x60) (by kernel_rfl) (by kernel_rfl) ?_
              refine ls_fr (b := ⟨([x0, x1, x2, undef, undef, undef, (D_2 0), x30, x31, x9, undef, undef, x2, x13, x14, x14, (D 0), (D 1), x18, x18, (D_1 0), (D_1 1), x22, undef, x29, x0, x26, x1, x2, x29, x30, x31, x30, x2, x34, x35, x9, x2, x38, x39, (D_2 5), (D_2 6), (D_2 7), (D_2 8), (D_2 9), (D_2 10), (D_2 11), (D_2 12), (D_2 13), (D_2 14)] ++ [(D_2 15), (D_2 16), (D_2 17), (D_2 18), (D_2 19), x60, x0, x57, x1, x2, x60, undef, undef, undef, undef, undef, undef, undef, undef, undef, undef, undef, undef, undef, undef, undef, undef]).toArray, []⟩) (by kernel_rfl) ?_
              refine ls_p (d := some 61) (by kernel_rfl) (by kernel_rfl) (p_tup (by kernel_rfl) H) (fun x61 H => ?_)
              refine ls_p (d := some 62) (by kernel_rfl) (by kernel_rfl) (p_tup (by kernel_rfl) H) (fun x62 H => ?_)
              refine ls_assign (x := x61) (by kernel_rfl) (by kernel_rfl) ?_
              refine ls_assign (x := x62) (by kernel_rfl) (by kernel_rfl) ?_
              refine ls_nil ?_
              refine then_normal ?_
              refine fr_eq (b := ⟨([x0, x1, x2, undef, undef, undef, (D_2 0), x30, x31, x9, x61, x62, x2, x13, x14, x14, (D 0), (D 1), x18, x18, (D_1 0), (D_1 1), x22, undef, x29, x0, x26, x1, x2, x29, x30, x31, x30, x2, x34, x35, x9, x2, x38, x39, (D_2 5), (D_2 6), (D_2 7), (D_2 8), (D_2 9), (D_2 10), (D_2 11), (D_2 12), (D_2 13), (D_2 14)] ++ [(D_2 15), (D_2 16), (D_2 17), (D_2 18), (D_2 19), x60, x0, x57, x1, x2, x60, x61, x62, undef, undef, undef, undef, undef, undef, undef, undef, undef, undef, undef, undef, undef, undef]).toArray, []⟩) (by kernel_rfl) ?_
              refine wp_seq ?_
              refine lwp_list ?_
              refine ls_move (x := x61) (by kernel_rfl) (by kernel_rfl) ?_
              refine ls_move (x := x2) (by kernel_rfl) (by kernel_rfl) ?_
              refine ls_d (d := some 65) (by kernel_rfl) (by kernel_rfl) HA_8 (d_call (by kernel_rfl) (by kernel_rfl) H) (fun x65 h_6 w_9 H HA_9 => ?_)
              refine ls_move (x := x65) (by kernel_rfl) (by kernel_rfl) ?_
              refine ls_and [(), (), (), (), (), (), ()] (fun K a w => ∃ (D_4 : Nat → Value) (x73 : Value), a = ⟨([x0, x1, x2, undef, undef, undef, (D_2 0), x30, x31, x9, x61, x62, x2, x13, x14, x14, (D 0), (D 1), x18, x18, (D_1 0), (D_1 1), x22, undef, x29, x0, x26, x1, x2, x29, x30, x31, x30, x2, x34, x35, x9, x2, x38, x39, (D_2 5), (D_2 6), (D_2 7), (D_2 8), (D_2 9), (D_2 10), (D_2 11), (D_2 12), (D_2 13), (D_2 14)] ++ [(D_2 15), (D_2 16), (D_2 17), (D_2 18), (D_2 19), x60, x0, x57, x1, x2, x60, x61, x62, x61, x2, x65, x65, (D_4 0), (D_4 1), (D_4 2), (D_4 3), (D_4 4), (D_4 5), x73, undef, undef, undef]).toArray, []⟩ ∧ At w0 w h_6 ∧ K x73) H (fun hb_2 H => ?_) (fun hb_2 H => ?_) ?_
              · refine ls_move (x := x62) (by rw [hb_2]; kernel_rfl) (by kernel_rfl) ?_
                refine ls_move (x := x1) (by rw [hb_2]; kernel_rfl) (by kernel_rfl) ?_
                refine ls_fr (b := ⟨([x0, x1, x2, undef, undef, undef, (D_2 0), x30, x31, x9, x61, x62, x2, x13, x14, x14, (D 0), (D 1), x18, x18, (D_1 0), (D_1 1), x22, undef, x29, x0, x26, x1, x2, x29, x30, x31, x30, x2, x34, x35, x9, x2, x38, x39, (D_2 5), (D_2 6), (D_2 7), (D_2 8), (D_2 9), (D_2 10), (D_2 11), (D_2 12), (D_2 13), (D_2 14)] ++ [(D_2 15), (D_2 16), (D_2 17), (D_2 18), (D_2 19), x60, x0, x57, x1, x2, x60, x61, x62, x61, x2, x65, x65, x62, x1, undef, undef, undef, undef, undef, undef, undef, undef]).toArray, []⟩) (by kernel_rfl) ?_
                refine ls_move (x := x2) (by rw [hb_2]; kernel_rfl) (by kernel_rfl) ?_
                refine ls_p (d := some 70) (by kernel_rfl) (by rw [hb_2]; kernel_rfl) (p_len Try.underlying56 (by kernel_rfl) H) (fun x70 H => ?_)
                refine ls_p (d := some 71) (by kernel_rfl) (by rw [hb_2]; kernel_rfl) (p_add (by kernel_rfl) (by kernel_rfl) H) (fun x71 H => ?_)
                refine ls_p (d := some 72) (by kernel_rfl) (by rw [hb_2]; kernel_rfl) (p_sEq (by kernel_rfl) (by kernel_rfl) H) (fun x72 H => ?_)
                refine ls_pick_t (x := x72) (by kernel_rfl) (by rw [hb_2]; kernel_rfl) (by kernel_rfl) ?_
                refine ls_nil ?_
                refine then_normal ?_
                exact ⟨(fun i => ([x62, x1, x2, x70, x71, x72]).getD i undef), x72, by kernel_rfl, HA_9, H⟩
              · refine ls_skip (d := some 67) (by kernel_rfl) (by rw [hb_2]; kernel_rfl) ?_
                refine ls_skip (d := some 68) (by kernel_rfl) (by rw [hb_2]; kernel_rfl) ?_
                refine ls_fr (b := ⟨([x0, x1, x2, undef, undef, undef, (D_2 0), x30, x31, x9, x61, x62, x2, x13, x14, x14, (D 0), (D 1), x18, x18, (D_1 0), (D_1 1), x22, undef, x29, x0, x26, x1, x2, x29, x30, x31, x30, x2, x34, x35, x9, x2, x38, x39, (D_2 5), (D_2 6), (D_2 7), (D_2 8), (D_2 9), (D_2 10), (D_2 11), (D_2 12), (D_2 13), (D_2 14)] ++ [(D_2 15), (D_2 16), (D_2 17), (D_2 18), (D_2 19), x60, x0, x57, x1, x2, x60, x61, x62, x61, x2, x65, x65, undef, undef, undef, undef, undef, undef, undef, undef, undef, undef]).toArray, []⟩) (by kernel_rfl) ?_
                refine ls_skip (d := some 69) (by kernel_rfl) (by rw [hb_2]; kernel_rfl) ?_
                refine ls_skip (d := some 70) (by kernel_rfl) (by rw [hb_2]; kernel_rfl) ?_
                refine ls_skip (d := some 71) (by kernel_rfl) (by rw [hb_2]; kernel_rfl) ?_
                refine ls_skip (d := some 72) (by kernel_rfl) (by rw [hb_2]; kernel_rfl) ?_
                refine ls_pick_f (y := (.bool false)) (by kernel_rfl) (by rw [hb_2]; kernel_rfl) (by kernel_rfl) ?_
                refine ls_nil ?_
                refine then_normal ?_
                exact ⟨(fun i => ([undef, undef, undef, undef, undef, undef]).getD i undef), (.bool false), by kernel_rfl, HA_9, H⟩
              · rintro _ w_10 ⟨D_4, x73, rfl, HA_10, H⟩
                refine ls_move (x := x73) (by kernel_rfl) (by kernel_rfl) ?_
                refine ls_andh [(), ()] (fun K a w => ∃ (D_5 : Nat → Value) (x76 : Value) (h_7 : Heap), a = ⟨([x0, x1, x2, undef, undef, undef, (D_2 0), x30, x31, x9, x61, x62, x2, x13, x14, x14, (D 0), (D 1), x18, x18, (D_1 0), (D_1 1), x22, undef, x29, x0, x26, x1, x2, x29, x30, x31, x30, x2, x34, x35, x9, x2, x38, x39, (D_2 5), (D_2 6), (D_2 7), (D_2 8), (D_2 9), (D_2 10), (D_2 11), (D_2 12), (D_2 13), (D_2 14)] ++ [(D_2 15), (D_2 16), (D_2 17), (D_2 18), (D_2 19), x60, x0, x57, x1, x2, x60, x61, x62, x61, x2, x65, x65, (D_4 0), (D_4 1), (D_4 2), (D_4 3), (D_4 4), (D_4 5), x73, x73, (D_5 0), x76]).toArray, []⟩ ∧ At w0 w h_7 ∧ K x76 h_7) H (fun hb_1 H => ?_) (fun hb_1 H => ?_) ?_
                · refine ls_d (d := some 75) (by kernel_rfl) (by rw [hb_1]; kernel_rfl) HA_10 (d_call (by kernel_rfl) (by kernel_rfl) H) (fun x75 h_8 w_12 H HA_12 => ?_)
                  refine ls_pick_t (x := x75) (by kernel_rfl) (by rw [hb_1]; kernel_rfl) (by kernel_rfl) ?_
                  refine ls_nil ?_
                  refine then_normal ?_
                  exact ⟨(fun i => ([x75]).getD i undef), x75, h_8, by kernel_rfl, HA_12, H⟩
                · refine ls_skip (d := some 75) (by kernel_rfl) (by rw [hb_1]; kernel_rfl) ?_
                  refine ls_pick_f (y := (.bool false)) (by kernel_rfl) (by rw [hb_1]; kernel_rfl) (by kernel_rfl) ?_
                  refine ls_nil ?_
                  refine then_normal ?_
                  exact ⟨(fun i => ([undef]).getD i undef), (.bool false), h_6, by kernel_rfl, HA_10, H⟩
                · rintro _ w_11 ⟨D_5, x76, h_7, rfl, HA_11, H⟩
                  refine ls_assign (x := x76) (by kernel_rfl) (by kernel_rfl) ?_
                  refine ls_nil ?_
                  refine then_normal ?_
                  refine fr_eq (b := ⟨([x0, x1, x2, undef, undef, undef, x76, x30, x31, x9, x61, x62, x2, x13, x14, x14, (D 0), (D 1), x18, x18, (D_1 0), (D_1 1), x22, undef, x29, x0, x26, x1, x2, x29, x30, x31, x30, x2, x34, x35, x9, x2, x38, x39, (D_2 5), (D_2 6), (D_2 7), (D_2 8), (D_2 9), (D_2 10), (D_2 11), (D_2 12), (D_2 13), (D_2 14)] ++ [(D_2 15), (D_2 16), (D_2 17), (D_2 18), (D_2 19), x60, x0, x57, x1, x2, x60, x61, x62, x61, x2, x65, x65, (D_4 0), (D_4 1), (D_4 2), (D_4 3), (D_4 4), (D_4 5), x73, x73, (D_5 0), x76]).toArray, []⟩) (by kernel_rfl) ?_
                  refine wp_ret ?_
                  exact end1 (Try.results8) (by kernel_rfl) (by kernel_rfl) HA_11 H _ (.inr rfl)

end Go.Proofs.Ythhpieidlpjbmaa
