/- The shallow reading of one function, and that the function does it. Written by a program. -/
import Derived.Test.YtecoejjpdogklaaFnC
namespace Go.Proofs.Ytecoejjpdogklaa
open Go Go.HW

def betonylaw20_PatienceTells_j1 (R : Value → Heap → Prop) (h_4 : Heap) : Prop :=
  betonylaw20_awake_c  h_4 fun x138 h_5 => 
  R x138 h_5
def betonylaw20_PatienceTells_j3 (next : Value → Value → Value → Value → Value → Heap → Prop) (x17 x13_1 x14_1 x15_1 x16_1 : Value) (h_7 : Heap) : Prop :=
  sAdd .i64 x17 (.int .i64 1) fun x77 =>
  next x13_1 x14_1 x15_1 x16_1 x77 h_7
def betonylaw20_PatienceTells_j5 (next : Value → Value → Value → Value → Value → Heap → Prop) (x0 x1 x2 x17 x13_2 x14_2 x15_2 : Value) (h_11 : Heap) : Prop :=
  betonyref20_Over_c x0 x1 x2 x13_2 x14_2 x15_2 h_11 fun x137 h_12 => 
  betonylaw20_PatienceTells_j3 next x17 x13_2 x14_2 x15_2 x137 h_12
def betonylaw20_PatienceTells_j4 (next : Value → Value → Value → Value → Value → Heap → Prop) (x0 x1 x2 x4 x13 x14 x15 x16 x17 : Value) (h_10 : Heap) : Prop :=
  sOr x16 (fun k =>
  sIxS x4 x17 1 fun x111 =>
  sLd h_10 x111 fun x112 =>
  sGt x112 (.int .i64 1048576) fun x113 =>
  k x113) fun x114 =>
  sIf x114 (betonylaw20_PatienceTells_j3 next x17 x13 x14 x15 x16 h_10) (sIxS x4 x17 1 fun x117 =>
  sLd h_10 x117 fun x118 =>
  sGt x118 (.int .i64 0) fun x119 =>
  sIf x119 (sIxS x4 x17 1 fun x123 =>
  sLd h_10 x123 fun x124 =>
  sAdd .i64 x13 x124 fun x125 =>
  sMin x125 (.int .i64 1048576) fun x126 =>
  betonylaw20_PatienceTells_j5 next x0 x1 x2 x17 x126 (.int .i64 0) x15 h_10) (sAdd .i64 x14 (.int .i64 1) fun x128 =>
  sAdd .i64 x15 (.int .i64 1) fun x130 =>
  betonylaw20_PatienceTells_j5 next x0 x1 x2 x17 x13 x128 x130 h_10))
def betonylaw20_PatienceTells_l2 (R : Value → Heap → Prop) (x0 x1 x2 x4 x26 : Value) (next : Value → Value → Value → Value → Value → Heap → Prop) (x13 x14 x15 x16 x17 : Value) (h_6 : Heap) : Prop :=
  sLen x4 fun x74 =>
  sLe x17 x74 fun x75 =>
  sIf x75 (patience_Wait_Done_c x26 h_6 fun x79 h_8 => 
  sNeqB x79 x16 fun x81 =>
  sOrH x81 h_8 (fun k_1 =>
  patience_Wait_Count_c x26 h_8 fun x84 h_15 => 
  sMin x13 x2 fun x87 =>
  sNe x84 x87 fun x88 =>
  k_1 x88 h_15) fun x89 h_9 =>
  sIf x89 (R (.bool false) h_9) (sLen x4 fun x92 =>
  sEq x17 x92 fun x93 =>
  sIf x93 (betonylaw20_PatienceTells_j1 R h_9) (sIxS x4 x17 1 fun x96 =>
  sLd h_9 x96 fun x97 =>
  sGt x97 (.int .i64 0) fun x98 =>
  sIf x98 (sIxS x4 x17 1 fun x102 =>
  sLd h_9 x102 fun x103 =>
  patience_Wait_Come_c x26 x103 h_9 fun x104 h_13 => 
  betonylaw20_PatienceTells_j4 next x0 x1 x2 x4 x13 x14 x15 x16 x17 h_13) (patience_Wait_Tick_c x26 h_9 fun x106 h_14 => 
  betonylaw20_PatienceTells_j4 next x0 x1 x2 x4 x13 x14 x15 x16 x17 h_14)))) (betonylaw20_PatienceTells_j1 R h_6)
def betonylaw20_PatienceTells_S (x0 x1 x2 x3 x4 : Value) (h : Heap) (R : Value → Heap → Prop) : Prop :=
  sLen x4 fun x19 =>
  sGt x19 (.int .i64 100) fun x20 =>
  sIf x20 (betonylaw20_awake_c  h fun x21 h => 
  R x21 h) (patience_New_c x0 x1 x2 x3 h fun x26 h_1 => 
  sGe x0 (.int .i64 0) fun x28 =>
  sAnd x28 (fun k_8 =>
  sLe x0 (.int .i64 255) fun x31 =>
  k_8 x31) fun x32 =>
  sAnd x32 (fun k_7 =>
  sGe x1 (.int .i64 0) fun x35 =>
  k_7 x35) fun x36 =>
  sAnd x36 (fun k_6 =>
  sLe x1 (.int .i64 255) fun x39 =>
  k_6 x39) fun x40 =>
  sAnd x40 (fun k_5 =>
  sGe x2 (.int .i64 0) fun x43 =>
  k_5 x43) fun x44 =>
  sAnd x44 (fun k_4 =>
  sLe x2 (.int .i64 1048576) fun x47 =>
  k_4 x47) fun x48 =>
  sAnd x48 (fun k_3 =>
  sGe x3 (.int .i64 0) fun x51 =>
  k_3 x51) fun x52 =>
  sAnd x52 (fun k_2 =>
  sLe x3 (.int .i64 1048576) fun x55 =>
  k_2 x55) fun x56 =>
  sNeqNil x26 fun x58 =>
  sNeqB x58 x56 fun x60 =>
  sIf x60 (R (.bool false) h_1) (sEqlNil x26 fun x62 =>
  sIf x62 (betonylaw20_awake_c  h_1 fun x63 h_2 => 
  R x63 h_2) (betonyref20_Over_c x0 x1 x2 x3 (.int .i64 0) (.int .i64 0) h_1 fun x71 h_3 => 
  sLoop (S := Value × Value × Value × Value × Value) (fun next s h => betonylaw20_PatienceTells_l2 R x0 x1 x2 x4 x26 (fun x13' x14' x15' x16' x17' h => next (x13', x14', x15', x16', x17') h) s.1 s.2.1 s.2.2.1 s.2.2.2.1 s.2.2.2.2 h) (x3, (.int .i64 0), (.int .i64 0), x71, (.int .i64 0)) h_3)))
set_option maxRecDepth 100000 in
theorem betonylaw20_PatienceTells_runs {x0 x1 x2 x3 x4 : Value} {h : Heap} {R : Value → Heap → Prop} (H : betonylaw20_PatienceTells_S x0 x1 x2 x3 x4 h R) : betonylaw20_PatienceTells_c x0 x1 x2 x3 x4 h R := by
  unfold betonylaw20_PatienceTells_S at H
  refine runs_of (b := ⟨([x0, x1, x2, x3, x4, undef, undef, undef, undef, undef, undef, undef, undef, undef, undef, undef, undef, undef, undef, undef, undef, undef, undef, undef, undef, undef, undef, undef, undef, undef, undef, undef, undef, undef, undef, undef, undef, undef, undef, undef, undef, undef, undef, undef, undef, undef, undef, undef, undef, undef] ++ [undef, undef, undef, undef, undef, undef, undef, undef, undef, undef, undef, undef, undef, undef, undef, undef, undef, undef, undef, undef, undef, undef, undef, undef, undef, undef, undef, undef, undef, undef, undef, undef, undef, undef, undef, undef, undef, undef, undef, undef, undef, undef, undef, undef, undef, undef, undef, undef, undef, undef] ++ [undef, undef, undef, undef, undef, undef, undef, undef, undef, undef, undef, undef, undef, undef, undef, undef, undef, undef, undef, undef, undef, undef, undef, undef, undef, undef, undef, undef, undef, undef, undef, undef, undef, undef, undef, undef, undef, undef, undef]).toArray, []⟩) Try.call3 Try.func3 rfl (by kernel_rfl) (fun w0 HA => ?_)
  refine wp_seq ?_
  refine lwp_list ?_
  refine ls_assign (x := (.bool false)) (by kernel_rfl) (by kernel_rfl) ?_
  refine ls_nil ?_
  refine then_normal ?_
  refine fr_eq (b := ⟨([x0, x1, x2, x3, x4, undef, undef, undef, undef, undef, (.bool false), undef, undef, undef, undef, undef, undef, undef, undef, undef, undef, undef, undef, undef, undef, undef, undef, undef, undef, undef, undef, undef, undef, undef, undef, undef, undef, undef, undef, undef, undef, undef, undef, undef, undef, undef, undef, undef, undef, undef] ++ [undef, undef, undef, undef, undef, undef, undef, undef, undef, undef, undef, undef, undef, undef, undef, undef, undef, undef, undef, undef, undef, undef, undef, undef, undef, undef, undef, undef, undef, undef, undef, undef, undef, undef, undef, undef, undef, undef, undef, undef, undef, undef, undef, undef, undef, undef, undef, undef, undef, undef] ++ [undef, undef, undef, undef, undef, undef, undef, undef, undef, undef, undef, undef, undef, undef, undef, undef, undef, undef, undef, undef, undef, undef, undef, undef, undef, undef, undef, undef, undef, undef, undef, undef, undef, undef, undef, undef, undef, undef, undef]).toArray, []⟩) (by kernel_rfl) ?_
  refine wp_seq ?_
  refine wp_seq ?_
  refine lwp_list ?_
  refine ls_move (x := x4) (by kernel_rfl) (by kernel_rfl) ?_
  refine ls_p (d := some 19) (by kernel_rfl) (by kernel_rfl) (p_len Try.underlying22 (by kernel_rfl) H) (fun x19 H => ?_)
  refine ls_p (d := some 20) (by kernel_rfl) (by kernel_rfl) (p_sGt (by kernel_rfl) (by kernel_rfl) H) (fun x20 H => ?_)
  refine ls_nil ?_
  refine then_normal ?_
  refine fr_eq (b := ⟨([x0, x1, x2, x3, x4, undef, undef, undef, undef, undef, (.bool false), undef, undef, undef, undef, undef, undef, undef, x4, x19, x20, undef, undef, undef, undef, undef, undef, undef, undef, undef, undef, undef, undef, undef, undef, undef, undef, undef, undef, undef, undef, undef, undef, undef, undef, undef, undef, undef, undef, undef] ++ [undef, undef, undef, undef, undef, undef, undef, undef, undef, undef, undef, undef, undef, undef, undef, undef, undef, undef, undef, undef, undef, undef, undef, undef, undef, undef, undef, undef, undef, undef, undef, undef, undef, undef, undef, undef, undef, undef, undef, undef, undef, undef, undef, undef, undef, undef, undef, undef, undef, undef] ++ [undef, undef, undef, undef, undef, undef, undef, undef, undef, undef, undef, undef, undef, undef, undef, undef, undef, undef, undef, undef, undef, undef, undef, undef, undef, undef, undef, undef, undef, undef, undef, undef, undef, undef, undef, undef, undef, undef, undef]).toArray, []⟩) (by kernel_rfl) ?_
  refine wp_if rfl H (fun H => ?_) (fun H => ?_)
  · refine wp_seq ?_
    refine lwp_list ?_
    refine ls_d (d := some 21) (by kernel_rfl) (by kernel_rfl) HA (d_call (by kernel_rfl) (by kernel_rfl) H) (fun x21 h w H HA => ?_)
    refine ls_assign (x := x21) (by kernel_rfl) (by kernel_rfl) ?_
    refine ls_nil ?_
    refine then_normal ?_
    refine fr_eq (b := ⟨([x0, x1, x2, x3, x4, undef, undef, undef, undef, undef, x21, undef, undef, undef, undef, undef, undef, undef, x4, x19, x20, x21, undef, undef, undef, undef, undef, undef, undef, undef, undef, undef, undef, undef, undef, undef, undef, undef, undef, undef, undef, undef, undef, undef, undef, undef, undef, undef, undef, undef] ++ [undef, undef, undef, undef, undef, undef, undef, undef, undef, undef, undef, undef, undef, undef, undef, undef, undef, undef, undef, undef, undef, undef, undef, undef, undef, undef, undef, undef, undef, undef, undef, undef, undef, undef, undef, undef, undef, undef, undef, undef, undef, undef, undef, undef, undef, undef, undef, undef, undef, undef] ++ [undef, undef, undef, undef, undef, undef, undef, undef, undef, undef, undef, undef, undef, undef, undef, undef, undef, undef, undef, undef, undef, undef, undef, undef, undef, undef, undef, undef, undef, undef, undef, undef, undef, undef, undef, undef, undef, undef, undef]).toArray, []⟩) (by kernel_rfl) ?_
    refine wp_ret ?_
    refine then_ret ?_
    exact end1 (Try.results3) (by kernel_rfl) (by kernel_rfl) HA H _ (.inr rfl)
  · refine wp_skip ?_
    refine then_normal ?_
    refine fr_eq (b := ⟨([x0, x1, x2, x3, x4, undef, undef, undef, undef, undef, (.bool false), undef, undef, undef, undef, undef, undef, undef, x4, x19, x20, undef, undef, undef, undef, undef, undef, undef, undef, undef, undef, undef, undef, undef, undef, undef, undef, undef, undef, undef, undef, undef, undef, undef, undef, undef, undef, undef, undef, undef] ++ [undef, undef, undef, undef, undef, undef, undef, undef, undef, undef, undef, undef, undef, undef, undef, undef, undef, undef, undef, undef, undef, undef, undef, undef, undef, undef, undef, undef, undef, undef, undef, undef, undef, undef, undef, undef, undef, undef, undef, undef, undef, undef, undef, undef, undef, undef, undef, undef, undef, undef] ++ [undef, undef, undef, undef, undef, undef, undef, undef, undef, undef, undef, undef, undef, undef, undef, undef, undef, undef, undef, undef, undef, undef, undef, undef, undef, undef, undef, undef, undef, undef, undef, undef, undef, undef, undef, undef, undef, undef, undef]).toArray, []⟩) (by kernel_rfl) ?_
    refine wp_seq ?_
    refine lwp_list ?_
    refine ls_move (x := x0) (by kernel_rfl) (by kernel_rfl) ?_
    refine ls_move (x := x1) (by kernel_rfl) (by kernel_rfl) ?_
    refine ls_move (x := x2) (by kernel_rfl) (by kernel_rfl) ?_
    refine ls_move (x := x3) (by kernel_rfl) (by kernel_rfl) ?_
    refine ls_d (d := some 26) (by kernel_rfl) (by kernel_rfl) HA (d_call (by kernel_rfl) (by kernel_rfl) H) (fun x26 h_1 w_1 H HA_1 => ?_)
    refine ls_assign (x := x26) (by kernel_rfl) (by kernel_rfl) ?_
    refine ls_nil ?_
    refine then_normal ?_
    refine fr_eq (b := ⟨([x0, x1, x2, x3, x4, undef, undef, undef, undef, undef, (.bool false), x26, undef, undef, undef, undef, undef, undef, x4, x19, x20, undef, x0, x1, x2, x3, x26, undef, undef, undef, undef, undef, undef, undef, undef, undef, undef, undef, undef, undef, undef, undef, undef, undef, undef, undef, undef, undef, undef, undef] ++ [undef, undef, undef, undef, undef, undef, undef, undef, undef, undef, undef, undef, undef, undef, undef, undef, undef, undef, undef, undef, undef, undef, undef, undef, undef, undef, undef, undef, undef, undef, undef, undef, undef, undef, undef, undef, undef, undef, undef, undef, undef, undef, undef, undef, undef, undef, undef, undef, undef, undef] ++ [undef, undef, undef, undef, undef, undef, undef, undef, undef, undef, undef, undef, undef, undef, undef, undef, undef, undef, undef, undef, undef, undef, undef, undef, undef, undef, undef, undef, undef, undef, undef, undef, undef, undef, undef, undef, undef, undef, undef]).toArray, []⟩) (by kernel_rfl) ?_
    refine wp_seq ?_
    refine lwp_list ?_
    refine ls_move (x := x0) (by kernel_rfl) (by kernel_rfl) ?_
    refine ls_p (d := some 28) (by kernel_rfl) (by kernel_rfl) (p_sGe (by kernel_rfl) (by kernel_rfl) H) (fun x28 H => ?_)
    refine ls_move (x := x28) (by kernel_rfl) (by kernel_rfl) ?_
    refine ls_and [(), (), ()] (fun K a w => ∃ (D : Nat → Value) (x32 : Value), a = ⟨([x0, x1, x2, x3, x4, undef, undef, undef, undef, undef, (.bool false), x26, undef, undef, undef, undef, undef, undef, x4, x19, x20, undef, x0, x1, x2, x3, x26, x0, x28, x28, (D 0), (D 1), x32, undef, undef, undef, undef, undef, undef, undef, undef, undef, undef, undef, undef, undef, undef, undef, undef, undef] ++ [undef, undef, undef, undef, undef, undef, undef, undef, undef, undef, undef, undef, undef, undef, undef, undef, undef, undef, undef, undef, undef, undef, undef, undef, undef, undef, undef, undef, undef, undef, undef, undef, undef, undef, undef, undef, undef, undef, undef, undef, undef, undef, undef, undef, undef, undef, undef, undef, undef, undef] ++ [undef, undef, undef, undef, undef, undef, undef, undef, undef, undef, undef, undef, undef, undef, undef, undef, undef, undef, undef, undef, undef, undef, undef, undef, undef, undef, undef, undef, undef, undef, undef, undef, undef, undef, undef, undef, undef, undef, undef]).toArray, []⟩ ∧ At w0 w h_1 ∧ K x32) H (fun hb_8 H => ?_) (fun hb_8 H => ?_) ?_
    · refine ls_move (x := x0) (by rw [hb_8]; kernel_rfl) (by kernel_rfl) ?_
      refine ls_p (d := some 31) (by kernel_rfl) (by rw [hb_8]; kernel_rfl) (p_sLe (by kernel_rfl) (by kernel_rfl) H) (fun x31 H => ?_)
      refine ls_pick_t (x := x31) (by kernel_rfl) (by rw [hb_8]; kernel_rfl) (by kernel_rfl) ?_
      refine ls_nil ?_
      refine then_normal ?_
      exact ⟨(fun i => ([x0, x31]).getD i undef), x31, by kernel_rfl, HA_1, H⟩
    · refine ls_skip (d := some 30) (by kernel_rfl) (by rw [hb_8]; kernel_rfl) ?_
      refine ls_skip (d := some 31) (by kernel_rfl) (by rw [hb_8]; kernel_rfl) ?_
      refine ls_pick_f (y := (.bool false)) (by kernel_rfl) (by rw [hb_8]; kernel_rfl) (by kernel_rfl) ?_
      refine ls_nil ?_
      refine then_normal ?_
      exact ⟨(fun i => ([undef, undef]).getD i undef), (.bool false), by kernel_rfl, HA_1, H⟩
    · rintro _ w_2 ⟨D, x32, rfl, HA_2, H⟩
      refine ls_move (x := x32) (by kernel_rfl) (by kernel_rfl) ?_
      refine ls_and [(), (), ()] (fun K a w => ∃ (D_1 : Nat → Value) (x36 : Value), a = ⟨([x0, x1, x2, x3, x4, undef, undef, undef, undef, undef, (.bool false), x26, undef, undef, undef, undef, undef, undef, x4, x19, x20, undef, x0, x1, x2, x3, x26, x0, x28, x28, (D 0), (D 1), x32, x32, (D_1 0), (D_1 1), x36, undef, undef, undef, undef, undef, undef, undef, undef, undef, undef, undef, undef, undef] ++ [undef, undef, undef, undef, undef, undef, undef, undef, undef, undef, undef, undef, undef, undef, undef, undef, undef, undef, undef, undef, undef, undef, undef, undef, undef, undef, undef, undef, undef, undef, undef, undef, undef, undef, undef, undef, undef, undef, undef, undef, undef, undef, undef, undef, undef, undef, undef, undef, undef, undef] ++ [undef, undef, undef, undef, undef, undef, undef, undef, undef, undef, undef, undef, undef, undef, undef, undef, undef, undef, undef, undef, undef, undef, undef, undef, undef, undef, undef, undef, undef, undef, undef, undef, undef, undef, undef, undef, undef, undef, undef]).toArray, []⟩ ∧ At w0 w h_1 ∧ K x36) H (fun hb_7 H => ?_) (fun hb_7 H => ?_) ?_
      · refine ls_move (x := x1) (by rw [hb_7]; kernel_rfl) (by kernel_rfl) ?_
        refine ls_p (d := some 35) (by kernel_rfl) (by rw [hb_7]; kernel_rfl) (p_sGe (by kernel_rfl) (by kernel_rfl) H) (fun x35 H => ?_)
        refine ls_pick_t (x := x35) (by kernel_rfl) (by rw [hb_7]; kernel_rfl) (by kernel_rfl) ?_
        refine ls_nil ?_
        refine then_normal ?_
        exact ⟨(fun i => ([x1, x35]).getD i undef), x35, by kernel_rfl, HA_2, H⟩
      · refine ls_skip (d := some 34) (by kernel_rfl) (by rw [hb_7]; kernel_rfl) ?_
        refine ls_skip (d := some 35) (by kernel_rfl) (by rw [hb_7]; kernel_rfl) ?_
        refine ls_pick_f (y := (.bool false)) (by kernel_rfl) (by rw [hb_7]; kernel_rfl) (by kernel_rfl) ?_
        refine ls_nil ?_
        refine then_normal ?_
        exact ⟨(fun i => ([undef, undef]).getD i undef), (.bool false), by kernel_rfl, HA_2, H⟩
      · rintro _ w_3 ⟨D_1, x36, rfl, HA_3, H⟩
        refine ls_move (x := x36) (by kernel_rfl) (by kernel_rfl) ?_
        refine ls_and [(), (), ()] (fun K a w => ∃ (D_2 : Nat → Value) (x40 : Value), a = ⟨([x0, x1, x2, x3, x4, undef, undef, undef, undef, undef, (.bool false), x26, undef, undef, undef, undef, undef, undef, x4, x19, x20, undef, x0, x1, x2, x3, x26, x0, x28, x28, (D 0), (D 1), x32, x32, (D_1 0), (D_1 1), x36, x36, (D_2 0), (D_2 1), x40, undef, undef, undef, undef, undef, undef, undef, undef, undef] ++ [undef, undef, undef, undef, undef, undef, undef, undef, undef, undef, undef, undef, undef, undef, undef, undef, undef, undef, undef, undef, undef, undef, undef, undef, undef, undef, undef, undef, undef, undef, undef, undef, undef, undef, undef, undef, undef, undef, undef, undef, undef, undef, undef, undef, undef, undef, undef, undef, undef, undef] ++ [undef, undef, undef, undef, undef, undef, undef, undef, undef, undef, undef, undef, undef, undef, undef, undef, undef, undef, undef, undef, undef, undef, undef, undef, undef, undef, undef, undef, undef, undef, undef, undef, undef, undef, undef, undef, undef, undef, undef]).toArray, []⟩ ∧ At w0 w h_1 ∧ K x40) H (fun hb_6 H => ?_) (fun hb_6 H => ?_) ?_
        · refine ls_move (x := x1) (by rw [hb_6]; kernel_rfl) (by kernel_rfl) ?_
          refine ls_p (d := some 39) (by kernel_rfl) (by rw [hb_6]; kernel_rfl) (p_sLe (by kernel_rfl) (by kernel_rfl) H) (fun x39 H => ?_)
          refine ls_pick_t (x := x39) (by kernel_rfl) (by rw [hb_6]; kernel_rfl) (by kernel_rfl) ?_
          refine ls_nil ?_
          refine then_normal ?_
          exact ⟨(fun i => ([x1, x39]).getD i undef), x39, by kernel_rfl, HA_3, H⟩
        · refine ls_skip (d := some 38) (by kernel_rfl) (by rw [hb_6]; kernel_rfl) ?_
          refine ls_skip (d := some 39) (by kernel_rfl) (by rw [hb_6]; kernel_rfl) ?_
          refine ls_pick_f (y := (.bool false)) (by kernel_rfl) (by rw [hb_6]; kernel_rfl) (by kernel_rfl) ?_
          refine ls_nil ?_
          refine then_normal ?_
          exact ⟨(fun i => ([undef, undef]).getD i undef), (.bool false), by kernel_rfl, HA_3, H⟩
        · rintro _ w_4 ⟨D_2, x40, rfl, HA_4, H⟩
          refine ls_move (x := x40) (by kernel_rfl) (by kernel_rfl) ?_
          refine ls_and [(), (), ()] (fun K a w => ∃ (D_3 : Nat → Value) (x44 : Value), a = ⟨([x0, x1, x2, x3, x4, undef, undef, undef, undef, undef, (.bool false), x26, undef, undef, undef, undef, undef, undef, x4, x19, x20, undef, x0, x1, x2, x3, x26, x0, x28, x28, (D 0), (D 1), x32, x32, (D_1 0), (D_1 1), x36, x36, (D_2 0), (D_2 1), x40, x40, (D_3 0), (D_3 1), x44, undef, undef, undef, undef, undef] ++ [undef, undef, undef, undef, undef, undef, undef, undef, undef, undef, undef, undef, undef, undef, undef, undef, undef, undef, undef, undef, undef, undef, undef, undef, undef, undef, undef, undef, undef, undef, undef, undef, undef, undef, undef, undef, undef, undef, undef, undef, undef, undef, undef, undef, undef, undef, undef, undef, undef, undef] ++ [undef, undef, undef, undef, undef, undef, undef, undef, undef, undef, undef, undef, undef, undef, undef, undef, undef, undef, undef, undef, undef, undef, undef, undef, undef, undef, undef, undef, undef, undef, undef, undef, undef, undef, undef, undef, undef, undef, undef]).toArray, []⟩ ∧ At w0 w h_1 ∧ K x44) H (fun hb_5 H => ?_) (fun hb_5 H => ?_) ?_
          · refine ls_move (x := x2) (by rw [hb_5]; kernel_rfl) (by kernel_rfl) ?_
            refine ls_p (d := some 43) (by kernel_rfl) (by rw [hb_5]; kernel_rfl) (p_sGe (by kernel_rfl) (by kernel_rfl) H) (fun x43 H => ?_)
            refine ls_pick_t (x := x43) (by kernel_rfl) (by rw [hb_5]; kernel_rfl) (by kernel_rfl) ?_
            refine ls_nil ?_
            refine then_normal ?_
            exact ⟨(fun i => ([x2, x43]).getD i undef), x43, by kernel_rfl, HA_4, H⟩
          · refine ls_skip (d := some 42) (by kernel_rfl) (by rw [hb_5]; kernel_rfl) ?_
            refine ls_skip (d := some 43) (by kernel_rfl) (by rw [hb_5]; kernel_rfl) ?_
            refine ls_pick_f (y := (.bool false)) (by kernel_rfl) (by rw [hb_5]; kernel_rfl) (by kernel_rfl) ?_
            refine ls_nil ?_
            refine then_normal ?_
            exact ⟨(fun i => ([undef, undef]).getD i undef), (.bool false), by kernel_rfl, HA_4, H⟩
          · rintro _ w_5 ⟨D_3, x44, rfl, HA_5, H⟩
            refine ls_move (x := x44) (by kernel_rfl) (by kernel_rfl) ?_
            refine ls_and [(), (), ()] (fun K a w => ∃ (D_4 : Nat → Value) (x48 : Value), a = ⟨([x0, x1, x2, x3, x4, undef, undef, undef, undef, undef, (.bool false), x26, undef, undef, undef, undef, undef, undef, x4, x19, x20, undef, x0, x1, x2, x3, x26, x0, x28, x28, (D 0), (D 1), x32, x32, (D_1 0), (D_1 1), x36, x36, (D_2 0), (D_2 1), x40, x40, (D_3 0), (D_3 1), x44, x44, (D_4 0), (D_4 1), x48, undef] ++ [undef, undef, undef, undef, undef, undef, undef, undef, undef, undef, undef, undef, undef, undef, undef, undef, undef, undef, undef, undef, undef, undef, undef, undef, undef, undef, undef, undef, undef, undef, undef, undef, undef, undef, undef, undef, undef, undef, undef, undef, undef, undef, undef, undef, undef, undef, undef, undef, undef, undef] ++ [undef, undef, undef, undef, undef, undef, undef, undef, undef, undef, undef, undef, undef, undef, undef, undef, undef, undef, undef, undef, undef, undef, undef, undef, undef, undef, undef, undef, undef, undef, undef, undef, undef, undef, undef, undef, undef, undef, undef]).toArray, []⟩ ∧ At w0 w h_1 ∧ K x48) H (fun hb_4 H => ?_) (fun hb_4 H => ?_) ?_
            · refine ls_move (x := x2) (by rw [hb_4]; kernel_rfl) (by kernel_rfl) ?_
              refine ls_p (d := some 47) (by kernel_rfl) (by rw [hb_4]; kernel_rfl) (p_sLe (by kernel_rfl) (by kernel_rfl) H) (fun x47 H => ?_)
              refine ls_pick_t (x := x47) (by kernel_rfl) (by rw [hb_4]; kernel_rfl) (by kernel_rfl) ?_
              refine ls_nil ?_
              refine then_normal ?_
              exact ⟨(fun i => ([x2, x47]).getD i undef), x47, by kernel_rfl, HA_5, H⟩
            · refine ls_skip (d := some 46) (by kernel_rfl) (by rw [hb_4]; kernel_rfl) ?_
              refine ls_skip (d := some 47) (by kernel_rfl) (by rw [hb_4]; kernel_rfl) ?_
              refine ls_pick_f (y := (.bool false)) (by kernel_rfl) (by rw [hb_4]; kernel_rfl) (by kernel_rfl) ?_
              refine ls_nil ?_
              refine then_normal ?_
              exact ⟨(fun i => ([undef, undef]).getD i undef), (.bool false), by kernel_rfl, HA_5, H⟩
            · rintro _ w_6 ⟨D_4, x48, rfl, HA_6, H⟩
              refine ls_move (x := x48) (by kernel_rfl) (by kernel_rfl) ?_
              refine ls_and [(), (), ()] (fun K a w => ∃ (D_5 : Nat → Value) (x52 : Value), a = ⟨([x0, x1, x2, x3, x4, undef, undef, undef, undef, undef, (.bool false), x26, undef, undef, undef, undef, undef, undef, x4, x19, x20, undef, x0, x1, x2, x3, x26, x0, x28, x28, (D 0), (D 1), x32, x32, (D_1 0), (D_1 1), x36, x36, (D_2 0), (D_2 1), x40, x40, (D_3 0), (D_3 1), x44, x44, (D_4 0), (D_4 1), x48, x48] ++ [(D_5 0), (D_5 1), x52, undef, undef, undef, undef, undef, undef, undef, undef, undef, undef, undef, undef, undef, undef, undef, undef, undef, undef, undef, undef, undef, undef, undef, undef, undef, undef, undef, undef, undef, undef, undef, undef, undef, undef, undef, undef, undef, undef, undef, undef, undef, undef, undef, undef, undef, undef, undef] ++ [undef, undef, undef, undef, undef, undef, undef, undef, undef, undef, undef, undef, undef, undef, undef, undef, undef, undef, undef, undef, undef, undef, undef, undef, undef, undef, undef, undef, undef, undef, undef, undef, undef, undef, undef, undef, undef, undef, undef]).toArray, []⟩ ∧ At w0 w h_1 ∧ K x52) H (fun hb_3 H => ?_) (fun hb_3 H => ?_) ?_
              · refine ls_move (x := x3) (by rw [hb_3]; kernel_rfl) (by kernel_rfl) ?_
                refine ls_p (d := some 51) (by kernel_rfl) (by rw [hb_3]; kernel_rfl) (p_sGe (by kernel_rfl) (by kernel_rfl) H) (fun x51 H => ?_)
                refine ls_pick_t (x := x51) (by kernel_rfl) (by rw [hb_3]; kernel_rfl) (by kernel_rfl) ?_
                refine ls_nil ?_
                refine then_normal ?_
                exact ⟨(fun i => ([x3, x51]).getD i undef), x51, by kernel_rfl, HA_6, H⟩
              · refine ls_skip (d := some 50) (by kernel_rfl) (by rw [hb_3]; kernel_rfl) ?_
                refine ls_skip (d := some 51) (by kernel_rfl) (by rw [hb_3]; kernel_rfl) ?_
                refine ls_pick_f (y := (.bool false)) (by kernel_rfl) (by rw [hb_3]; kernel_rfl) (by kernel_rfl) ?_
                refine ls_nil ?_
                refine then_normal ?_
                exact ⟨(fun i => ([undef, undef]).getD i undef), (.bool false), by kernel_rfl, HA_6, H⟩
              · rintro _ w_7 ⟨D_5, x52, rfl, HA_7, H⟩
                refine ls_move (x := x52) (by kernel_rfl) (by kernel_rfl) ?_
                refine ls_and [(), (), ()] (fun K a w => ∃ (D_6 : Nat → Value) (x56 : Value), a = ⟨([x0, x1, x2, x3, x4, undef, undef, undef, undef, undef, (.bool false), x26, undef, undef, undef, undef, undef, undef, x4, x19, x20, undef, x0, x1, x2, x3, x26, x0, x28, x28, (D 0), (D 1), x32, x32, (D_1 0), (D_1 1), x36, x36, (D_2 0), (D_2 1), x40, x40, (D_3 0), (D_3 1), x44, x44, (D_4 0), (D_4 1), x48, x48] ++ [(D_5 0), (D_5 1), x52, x52, (D_6 0), (D_6 1), x56, undef, undef, undef, undef, undef, undef, undef, undef, undef, undef, undef, undef, undef, undef, undef, undef, undef, undef, undef, undef, undef, undef, undef, undef, undef, undef, undef, undef, undef, undef, undef, undef, undef, undef, undef, undef, undef, undef, undef, undef, undef, undef, undef] ++ [undef, undef, undef, undef, undef, undef, undef, undef, undef, undef, undef, undef, undef, undef, undef, undef, undef, undef, undef, undef, undef, undef, undef, undef, undef, undef, undef, undef, undef, undef, undef, undef, undef, undef, undef, undef, undef, undef, undef]).toArray, []⟩ ∧ At w0 w h_1 ∧ K x56) H (fun hb_2 H => ?_) (fun hb_2 H => ?_) ?_
                · refine ls_move (x := x3) (by rw [hb_2]; kernel_rfl) (by kernel_rfl) ?_
                  refine ls_p (d := some 55) (by kernel_rfl) (by rw [hb_2]; kernel_rfl) (p_sLe (by kernel_rfl) (by kernel_rfl) H) (fun x55 H => ?_)
                  refine ls_pick_t (x := x55) (by kernel_rfl) (by rw [hb_2]; kernel_rfl) (by kernel_rfl) ?_
                  refine ls_nil ?_
                  refine then_normal ?_
                  exact ⟨(fun i => ([x3, x55]).getD i undef), x55, by kernel_rfl, HA_7, H⟩
                · refine ls_skip (d := some 54) (by kernel_rfl) (by rw [hb_2]; kernel_rfl) ?_
                  refine ls_skip (d := some 55) (by kernel_rfl) (by rw [hb_2]; kernel_rfl) ?_
                  refine ls_pick_f (y := (.bool false)) (by kernel_rfl) (by rw [hb_2]; kernel_rfl) (by kernel_rfl) ?_
                  refine ls_nil ?_
                  refine then_normal ?_
                  exact ⟨(fun i => ([undef, undef]).getD i undef), (.bool false), by kernel_rfl, HA_7, H⟩
                · rintro _ w_8 ⟨D_6, x56, rfl, HA_8, H⟩
                  refine ls_assign (x := x56) (by kernel_rfl) (by kernel_rfl) ?_
                  refine ls_nil ?_
                  refine then_normal ?_
                  refine fr_eq (b := ⟨([x0, x1, x2, x3, x4, undef, undef, undef, undef, undef, (.bool false), x26, x56, undef, undef, undef, undef, undef, x4, x19, x20, undef, x0, x1, x2, x3, x26, x0, x28, x28, (D 0), (D 1), x32, x32, (D_1 0), (D_1 1), x36, x36, (D_2 0), (D_2 1), x40, x40, (D_3 0), (D_3 1), x44, x44, (D_4 0), (D_4 1), x48, x48] ++ [(D_5 0), (D_5 1), x52, x52, (D_6 0), (D_6 1), x56, undef, undef, undef, undef, undef, undef, undef, undef, undef, undef, undef, undef, undef, undef, undef, undef, undef, undef, undef, undef, undef, undef, undef, undef, undef, undef, undef, undef, undef, undef, undef, undef, undef, undef, undef, undef, undef, undef, undef, undef, undef, undef, undef] ++ [undef, undef, undef, undef, undef, undef, undef, undef, undef, undef, undef, undef, undef, undef, undef, undef, undef, undef, undef, undef, undef, undef, undef, undef, undef, undef, undef, undef, undef, undef, undef, undef, undef, undef, undef, undef, undef, undef, undef]).toArray, []⟩) (by kernel_rfl) ?_
                  refine wp_seq ?_
                  refine wp_seq ?_
                  refine lwp_list ?_
                  refine ls_move (x := x26) (by kernel_rfl) (by kernel_rfl) ?_
                  refine ls_p (d := some 58) (by kernel_rfl) (by kernel_rfl) (p_neqNil Try.underlying24 (by kernel_rfl) (by kernel_rfl) H) (fun x58 H => ?_)
                  refine ls_move (x := x56) (by kernel_rfl) (by kernel_rfl) ?_
                  refine ls_p (d := some 60) (by kernel_rfl) (by kernel_rfl) (p_neqB Try.underlying4 (by kernel_rfl) (by kernel_rfl) H) (fun x60 H => ?_)
                  refine ls_nil ?_
                  refine then_normal ?_
                  refine fr_eq (b := ⟨([x0, x1, x2, x3, x4, undef, undef, undef, undef, undef, (.bool false), x26, x56, undef, undef, undef, undef, undef, x4, x19, x20, undef, x0, x1, x2, x3, x26, x0, x28, x28, (D 0), (D 1), x32, x32, (D_1 0), (D_1 1), x36, x36, (D_2 0), (D_2 1), x40, x40, (D_3 0), (D_3 1), x44, x44, (D_4 0), (D_4 1), x48, x48] ++ [(D_5 0), (D_5 1), x52, x52, (D_6 0), (D_6 1), x56, x26, x58, x56, x60, undef, undef, undef, undef, undef, undef, undef, undef, undef, undef, undef, undef, undef, undef, undef, undef, undef, undef, undef, undef, undef, undef, undef, undef, undef, undef, undef, undef, undef, undef, undef, undef, undef, undef, undef, undef, undef, undef, undef] ++ [undef, undef, undef, undef, undef, undef, undef, undef, undef, undef, undef, undef, undef, undef, undef, undef, undef, undef, undef, undef, undef, undef, undef, undef, undef, undef, undef, undef, undef, undef, undef, undef, undef, undef, undef, undef, undef, undef, undef]).toArray, []⟩) (by kernel_rfl) ?_
                  refine wp_if rfl H (fun H => ?_) (fun H => ?_)
                  · refine wp_seq ?_
                    refine lwp_list ?_
                    refine ls_assign (x := (.bool false)) (by kernel_rfl) (by kernel_rfl) ?_
                    refine ls_nil ?_
                    refine then_normal ?_
                    refine fr_eq (b := ⟨([x0, x1, x2, x3, x4, undef, undef, undef, undef, undef, (.bool false), x26, x56, undef, undef, undef, undef, undef, x4, x19, x20, undef, x0, x1, x2, x3, x26, x0, x28, x28, (D 0), (D 1), x32, x32, (D_1 0), (D_1 1), x36, x36, (D_2 0), (D_2 1), x40, x40, (D_3 0), (D_3 1), x44, x44, (D_4 0), (D_4 1), x48, x48] ++ [(D_5 0), (D_5 1), x52, x52, (D_6 0), (D_6 1), x56, x26, x58, x56, x60, undef, undef, undef, undef, undef, undef, undef, undef, undef, undef, undef, undef, undef, undef, undef, undef, undef, undef, undef, undef, undef, undef, undef, undef, undef, undef, undef, undef, undef, undef, undef, undef, undef, undef, undef, undef, undef, undef, undef] ++ [undef, undef, undef, undef, undef, undef, undef, undef, undef, undef, undef, undef, undef, undef, undef, undef, undef, undef, undef, undef, undef, undef, undef, undef, undef, undef, undef, undef, undef, undef, undef, undef, undef, undef, undef, undef, undef, undef, undef]).toArray, []⟩) (by kernel_rfl) ?_
                    refine wp_ret ?_
                    refine then_ret ?_
                    exact end1 (Try.results3) (by kernel_rfl) (by kernel_rfl) HA_8 H _ (.inr rfl)
                  · refine wp_skip ?_
                    refine then_normal ?_
                    refine fr_eq (b := ⟨([x0, x1, x2, x3, x4, undef, undef, undef, undef, undef, (.bool false), x26, x56, undef, undef, undef, undef, undef, x4, x19, x20, undef, x0, x1, x2, x3, x26, x0, x28, x28, (D 0), (D 1), x32, x32, (D_1 0), (D_1 1), x36, x36, (D_2 0), (D_2 1), x40, x40, (D_3 0), (D_3 1), x44, x44, (D_4 0), (D_4 1), x48, x48] ++ [(D_5 0), (D_5 1), x52, x52, (D_6 0), (D_6 1), x56, x26, x58, x56, x60, undef, undef, undef, undef, undef, undef, undef, undef, undef, undef, undef, undef, undef, undef, undef, undef, undef, undef, undef, undef, undef, undef, undef, undef, undef, undef, undef, undef, undef, undef, undef, undef, undef, undef, undef, undef, undef, undef, undef] ++ [undef, undef, undef, undef, undef, undef, undef, undef, undef, undef, undef, undef, undef, undef, undef, undef, undef, undef, undef, undef, undef, undef, undef, undef, undef, undef, undef, undef, undef, undef, undef, undef, undef, undef, undef, undef, undef, undef, undef]).toArray, []⟩) (by kernel_rfl) ?_
                    refine wp_seq ?_
                    refine wp_seq ?_
                    refine lwp_list ?_
                    refine ls_move (x := x26) (by kernel_rfl) (by kernel_rfl) ?_
                    refine ls_p (d := some 62) (by kernel_rfl) (by kernel_rfl) (p_eqlNil Try.underlying24 (by kernel_rfl) (by kernel_rfl) H) (fun x62 H => ?_)
                    refine ls_nil ?_
                    refine then_normal ?_
                    refine fr_eq (b := ⟨([x0, x1, x2, x3, x4, undef, undef, undef, undef, undef, (.bool false), x26, x56, undef, undef, undef, undef, undef, x4, x19, x20, undef, x0, x1, x2, x3, x26, x0, x28, x28, (D 0), (D 1), x32, x32, (D_1 0), (D_1 1), x36, x36, (D_2 0), (D_2 1), x40, x40, (D_3 0), (D_3 1), x44, x44, (D_4 0), (D_4 1), x48, x48] ++ [(D_5 0), (D_5 1), x52, x52, (D_6 0), (D_6 1), x56, x26, x58, x56, x60, x26, x62, undef, undef, undef, undef, undef, undef, undef, undef, undef, undef, undef, undef, undef, undef, undef, undef, undef, undef, undef, undef, undef, undef, undef, undef, undef, undef, undef, undef, undef, undef, undef, undef, undef, undef, undef, undef, undef] ++ [undef, undef, undef, undef, undef, undef, undef, undef, undef, undef, undef, undef, undef, undef, undef, undef, undef, undef, undef, undef, undef, undef, undef, undef, undef, undef, undef, undef, undef, undef, undef, undef, undef, undef, undef, undef, undef, undef, undef]).toArray, []⟩) (by kernel_rfl) ?_
                    refine wp_if rfl H (fun H => ?_) (fun H => ?_)
                    · refine wp_seq ?_
                      refine lwp_list ?_
                      refine ls_d (d := some 63) (by kernel_rfl) (by kernel_rfl) HA_8 (d_call (by kernel_rfl) (by kernel_rfl) H) (fun x63 h_2 w_9 H HA_9 => ?_)
                      refine ls_assign (x := x63) (by kernel_rfl) (by kernel_rfl) ?_
                      refine ls_nil ?_
                      refine then_normal ?_
                      refine fr_eq (b := ⟨([x0, x1, x2, x3, x4, undef, undef, undef, undef, undef, x63, x26, x56, undef, undef, undef, undef, undef, x4, x19, x20, undef, x0, x1, x2, x3, x26, x0, x28, x28, (D 0), (D 1), x32, x32, (D_1 0), (D_1 1), x36, x36, (D_2 0), (D_2 1), x40, x40, (D_3 0), (D_3 1), x44, x44, (D_4 0), (D_4 1), x48, x48] ++ [(D_5 0), (D_5 1), x52, x52, (D_6 0), (D_6 1), x56, x26, x58, x56, x60, x26, x62, x63, undef, undef, undef, undef, undef, undef, undef, undef, undef, undef, undef, undef, undef, undef, undef, undef, undef, undef, undef, undef, undef, undef, undef, undef, undef, undef, undef, undef, undef, undef, undef, undef, undef, undef, undef, undef] ++ [undef, undef, undef, undef, undef, undef, undef, undef, undef, undef, undef, undef, undef, undef, undef, undef, undef, undef, undef, undef, undef, undef, undef, undef, undef, undef, undef, undef, undef, undef, undef, undef, undef, undef, undef, undef, undef, undef, undef]).toArray, []⟩) (by kernel_rfl) ?_
                      refine wp_ret ?_
                      refine then_ret ?_
                      exact end1 (Try.results3) (by kernel_rfl) (by kernel_rfl) HA_9 H _ (.inr rfl)
                    · refine wp_skip ?_
                      refine then_normal ?_
                      refine fr_eq (b := ⟨([x0, x1, x2, x3, x4, undef, undef, undef, undef, undef, (.bool false), x26, x56, undef, undef, undef, undef, undef, x4, x19, x20, undef, x0, x1, x2, x3, x26, x0, x28, x28, (D 0), (D 1), x32, x32, (D_1 0), (D_1 1), x36, x36, (D_2 0), (D_2 1), x40, x40, (D_3 0), (D_3 1), x44, x44, (D_4 0), (D_4 1), x48, x48] ++ [(D_5 0), (D_5 1), x52, x52, (D_6 0), (D_6 1), x56, x26, x58, x56, x60, x26, x62, undef, undef, undef, undef, undef, undef, undef, undef, undef, undef, undef, undef, undef, undef, undef, undef, undef, undef, undef, undef, undef, undef, undef, undef, undef, undef, undef, undef, undef, undef, undef, undef, undef, undef, undef, undef, undef] ++ [undef, undef, undef, undef, undef, undef, undef, undef, undef, undef, undef, undef, undef, undef, undef, undef, undef, undef, undef, undef, undef, undef, undef, undef, undef, undef, undef, undef, undef, undef, undef, undef, undef, undef, undef, undef, undef, undef, undef]).toArray, []⟩) (by kernel_rfl) ?_
                      refine wp_seq ?_
                      refine lwp_list ?_
                      refine ls_move (x := x3) (by kernel_rfl) (by kernel_rfl) ?_
                      refine ls_assign (x := x3) (by kernel_rfl) (by kernel_rfl) ?_
                      refine ls_assign (x := (.int .i64 0)) (by kernel_rfl) (by kernel_rfl) ?_
                      refine ls_assign (x := (.int .i64 0)) (by kernel_rfl) (by kernel_rfl) ?_
                      refine ls_nil ?_
                      refine then_normal ?_
                      refine fr_eq (b := ⟨([x0, x1, x2, x3, x4, undef, undef, undef, undef, undef, (.bool false), x26, x56, x3, (.int .i64 0), (.int .i64 0), undef, undef, x4, x19, x20, undef, x0, x1, x2, x3, x26, x0, x28, x28, (D 0), (D 1), x32, x32, (D_1 0), (D_1 1), x36, x36, (D_2 0), (D_2 1), x40, x40, (D_3 0), (D_3 1), x44, x44, (D_4 0), (D_4 1), x48, x48] ++ [(D_5 0), (D_5 1), x52, x52, (D_6 0), (D_6 1), x56, x26, x58, x56, x60, x26, x62, undef, x3, undef, undef, undef, undef, undef, undef, undef, undef, undef, undef, undef, undef, undef, undef, undef, undef, undef, undef, undef, undef, undef, undef, undef, undef, undef, undef, undef, undef, undef, undef, undef, undef, undef, undef, undef] ++ [undef, undef, undef, undef, undef, undef, undef, undef, undef, undef, undef, undef, undef, undef, undef, undef, undef, undef, undef, undef, undef, undef, undef, undef, undef, undef, undef, undef, undef, undef, undef, undef, undef, undef, undef, undef, undef, undef, undef]).toArray, []⟩) (by kernel_rfl) ?_
                      refine wp_seq ?_
                      refine lwp_list ?_
                      refine ls_move (x := x0) (by kernel_rfl) (by kernel_rfl) ?_
                      refine ls_move (x := x1) (by kernel_rfl) (by kernel_rfl) ?_
                      refine ls_move (x := x2) (by kernel_rfl) (by kernel_rfl) ?_
                      refine ls_move (x := x3) (by kernel_rfl) (by kernel_rfl) ?_
                      refine ls_move (x := (.int .i64 0)) (by kernel_rfl) (by kernel_rfl) ?_
                      refine ls_move (x := (.int .i64 0)) (by kernel_rfl) (by kernel_rfl) ?_
                      refine ls_fr (b := ⟨([x0, x1, x2, x3, x4, undef, undef, undef, undef, undef, (.bool false), x26, x56, x3, (.int .i64 0), (.int .i64 0), undef, undef, x4, x19, x20, undef, x0, x1, x2, x3, x26, x0, x28, x28, (D 0), (D 1), x32, x32, (D_1 0), (D_1 1), x36, x36, (D_2 0), (D_2 1), x40, x40, (D_3 0), (D_3 1), x44, x44, (D_4 0), (D_4 1), x48, x48] ++ [(D_5 0), (D_5 1), x52, x52, (D_6 0), (D_6 1), x56, x26, x58, x56, x60, x26, x62, undef, x3, x0, x1, x2, x3, (.int .i64 0), (.int .i64 0), undef, undef, undef, undef, undef, undef, undef, undef, undef, undef, undef, undef, undef, undef, undef, undef, undef, undef, undef, undef, undef, undef, undef, undef, undef, undef, undef, undef, undef] ++ [undef, undef, undef, undef, undef, undef, undef, undef, undef, undef, undef, undef, undef, undef, undef, undef, undef, undef, undef, undef, undef, undef, undef, undef, undef, undef, undef, undef, undef, undef, undef, undef, undef, undef, undef, undef, undef, undef, undef]).toArray, []⟩) (by kernel_rfl) ?_
                      refine ls_d (d := some 71) (by kernel_rfl) (by kernel_rfl) HA_8 (d_call (by kernel_rfl) (by kernel_rfl) H) (fun x71 h_3 w_10 H HA_10 => ?_)
                      refine ls_assign (x := x71) (by kernel_rfl) (by kernel_rfl) ?_
                      refine ls_nil ?_
                      refine then_normal ?_
                      refine fr_eq (b := ⟨([x0, x1, x2, x3, x4, undef, undef, undef, undef, undef, (.bool false), x26, x56, x3, (.int .i64 0), (.int .i64 0), x71, undef, x4, x19, x20, undef, x0, x1, x2, x3, x26, x0, x28, x28, (D 0), (D 1), x32, x32, (D_1 0), (D_1 1), x36, x36, (D_2 0), (D_2 1), x40, x40, (D_3 0), (D_3 1), x44, x44, (D_4 0), (D_4 1), x48, x48] ++ [(D_5 0), (D_5 1), x52, x52, (D_6 0), (D_6 1), x56, x26, x58, x56, x60, x26, x62, undef, x3, x0, x1, x2, x3, (.int .i64 0), (.int .i64 0), x71, undef, undef, undef, undef, undef, undef, undef, undef, undef, undef, undef, undef, undef, undef, undef, undef, undef, undef, undef, undef, undef, undef, undef, undef, undef, undef, undef, undef] ++ [undef, undef, undef, undef, undef, undef, undef, undef, undef, undef, undef, undef, undef, undef, undef, undef, undef, undef, undef, undef, undef, undef, undef, undef, undef, undef, undef, undef, undef, undef, undef, undef, undef, undef, undef, undef, undef, undef, undef]).toArray, []⟩) (by kernel_rfl) ?_
                      refine wp_seq ?_
                      refine wp_seq ?_
                      refine lwp_list ?_
                      refine ls_assign (x := (.int .i64 0)) (by kernel_rfl) (by kernel_rfl) ?_
                      refine ls_nil ?_
                      refine then_normal ?_
                      refine fr_eq (b := ⟨([x0, x1, x2, x3, x4, undef, undef, undef, undef, undef, (.bool false), x26, x56, x3, (.int .i64 0), (.int .i64 0), x71, (.int .i64 0), x4, x19, x20, undef, x0, x1, x2, x3, x26, x0, x28, x28, (D 0), (D 1), x32, x32, (D_1 0), (D_1 1), x36, x36, (D_2 0), (D_2 1), x40, x40, (D_3 0), (D_3 1), x44, x44, (D_4 0), (D_4 1), x48, x48] ++ [(D_5 0), (D_5 1), x52, x52, (D_6 0), (D_6 1), x56, x26, x58, x56, x60, x26, x62, undef, x3, x0, x1, x2, x3, (.int .i64 0), (.int .i64 0), x71, undef, undef, undef, undef, undef, undef, undef, undef, undef, undef, undef, undef, undef, undef, undef, undef, undef, undef, undef, undef, undef, undef, undef, undef, undef, undef, undef, undef] ++ [undef, undef, undef, undef, undef, undef, undef, undef, undef, undef, undef, undef, undef, undef, undef, undef, undef, undef, undef, undef, undef, undef, undef, undef, undef, undef, undef, undef, undef, undef, undef, undef, undef, undef, undef, undef, undef, undef, undef]).toArray, []⟩) (by kernel_rfl) ?_
                      refine wp_join (fun a w => ∃ (D_7 : Nat → Value) (h_4 : Heap), a = ⟨([x0, x1, x2, x3, x4, undef, undef, undef, undef, undef, (D_7 0), x26, x56, (D_7 1), (D_7 2), (D_7 3), (D_7 4), (D_7 5), x4, x19, x20, undef, x0, x1, x2, x3, x26, x0, x28, x28, (D 0), (D 1), x32, x32, (D_1 0), (D_1 1), x36, x36, (D_2 0), (D_2 1), x40, x40, (D_3 0), (D_3 1), x44, x44, (D_4 0), (D_4 1), x48, x48] ++ [(D_5 0), (D_5 1), x52, x52, (D_6 0), (D_6 1), x56, x26, x58, x56, x60, x26, x62, undef, x3, x0, x1, x2, x3, (.int .i64 0), (.int .i64 0), x71, (D_7 6), (D_7 7), (D_7 8), (D_7 9), (D_7 10), (D_7 11), (D_7 12), (D_7 13), (D_7 14), (D_7 15), (D_7 16), (D_7 17), (D_7 18), (D_7 19), (D_7 20), (D_7 21), (D_7 22), (D_7 23), (D_7 24), (D_7 25), (D_7 26), (D_7 27), (D_7 28), (D_7 29), (D_7 30), (D_7 31), (D_7 32), (D_7 33)] ++ [(D_7 34), (D_7 35), (D_7 36), (D_7 37), (D_7 38), (D_7 39), (D_7 40), (D_7 41), (D_7 42), (D_7 43), (D_7 44), (D_7 45), (D_7 46), (D_7 47), (D_7 48), (D_7 49), (D_7 50), (D_7 51), (D_7 52), (D_7 53), (D_7 54), (D_7 55), (D_7 56), (D_7 57), (D_7 58), (D_7 59), (D_7 60), (D_7 61), (D_7 62), (D_7 63), (D_7 64), (D_7 65), (D_7 66), (D_7 67), (D_7 68), (D_7 69), (D_7 70), (D_7 71), undef]).toArray, []⟩ ∧ At w0 w h_4 ∧ betonylaw20_PatienceTells_j1 R h_4) ?_ ?_
                      · refine wp_block ?_
                        obtain ⟨I, m, H0, HB⟩ := H
                        refine wp_loop (fun a w => ∃ (D_8 : Nat → Value) (x13 x14 x15 x16 x17 : Value) (h_6 : Heap), a = ⟨([x0, x1, x2, x3, x4, undef, undef, undef, undef, undef, (D_8 0), x26, x56, x13, x14, x15, x16, x17, x4, x19, x20, undef, x0, x1, x2, x3, x26, x0, x28, x28, (D 0), (D 1), x32, x32, (D_1 0), (D_1 1), x36, x36, (D_2 0), (D_2 1), x40, x40, (D_3 0), (D_3 1), x44, x44, (D_4 0), (D_4 1), x48, x48] ++ [(D_5 0), (D_5 1), x52, x52, (D_6 0), (D_6 1), x56, x26, x58, x56, x60, x26, x62, undef, x3, x0, x1, x2, x3, (.int .i64 0), (.int .i64 0), x71, (D_8 1), (D_8 2), (D_8 3), (D_8 4), (D_8 5), (D_8 6), (D_8 7), (D_8 8), (D_8 9), (D_8 10), (D_8 11), (D_8 12), (D_8 13), (D_8 14), (D_8 15), (D_8 16), (D_8 17), (D_8 18), (D_8 19), (D_8 20), (D_8 21), (D_8 22), (D_8 23), (D_8 24), (D_8 25), (D_8 26), (D_8 27), (D_8 28)] ++ [(D_8 29), (D_8 30), (D_8 31), (D_8 32), (D_8 33), (D_8 34), (D_8 35), (D_8 36), (D_8 37), (D_8 38), (D_8 39), (D_8 40), (D_8 41), (D_8 42), (D_8 43), (D_8 44), (D_8 45), (D_8 46), (D_8 47), (D_8 48), (D_8 49), (D_8 50), (D_8 51), (D_8 52), (D_8 53), (D_8 54), (D_8 55), (D_8 56), (D_8 57), (D_8 58), (D_8 59), (D_8 60), (D_8 61), (D_8 62), (D_8 63), (D_8 64), (D_8 65), (D_8 66), undef]).toArray, []⟩ ∧ At w0 w h_6 ∧ I (x13, x14, x15, x16, x17) h_6) (fun a w => m ((a.tmps.getD 13 undef), (a.tmps.getD 14 undef), (a.tmps.getD 15 undef), (a.tmps.getD 16 undef), (a.tmps.getD 17 undef)) w.heap) ?_ ?_
                        · exact ⟨(fun i => ([(.bool false), undef, undef, undef, undef, undef, undef, undef, undef, undef, undef, undef, undef, undef, undef, undef, undef, undef, undef, undef, undef, undef, undef, undef, undef, undef, undef, undef, undef, undef, undef, undef, undef, undef, undef, undef, undef, undef, undef, undef, undef, undef, undef, undef, undef, undef, undef, undef, undef, undef] ++ [undef, undef, undef, undef, undef, undef, undef, undef, undef, undef, undef, undef, undef, undef, undef, undef, undef]).getD i undef), x3, (.int .i64 0), (.int .i64 0), x71, (.int .i64 0), h_3, by kernel_rfl, HA_10, H0⟩
                        · rintro _ w_13 ⟨D_8, x13, x14, x15, x16, x17, h_6, rfl, HA_13, HI⟩
                          have H : betonylaw20_PatienceTells_l2 R x0 x1 x2 x4 x26 (fun x13' x14' x15' x16' x17' h' => I (x13', x14', x15', x16', x17') h' ∧ m (x13', x14', x15', x16', x17') h' < m (x13, x14, x15, x16, x17) h_6) x13 x14 x15 x16 x17 h_6 := HB (x13, x14, x15, x16, x17) h_6 HI
                          clear HB H0 HI
                          unfold betonylaw20_PatienceTells_l2 at H
                          refine wp_seq ?_
                          refine wp_seq ?_
                          refine lwp_list ?_
                          refine ls_move (x := x17) (by kernel_rfl) (by kernel_rfl) ?_
                          refine ls_move (x := x4) (by kernel_rfl) (by kernel_rfl) ?_
                          refine ls_p (d := some 74) (by kernel_rfl) (by kernel_rfl) (p_len Try.underlying22 (by kernel_rfl) H) (fun x74 H => ?_)
                          refine ls_p (d := some 75) (by kernel_rfl) (by kernel_rfl) (p_sLe (by kernel_rfl) (by kernel_rfl) H) (fun x75 H => ?_)
                          refine ls_nil ?_
                          refine then_normal ?_
                          refine fr_eq (b := ⟨([x0, x1, x2, x3, x4, undef, undef, undef, undef, undef, (D_8 0), x26, x56, x13, x14, x15, x16, x17, x4, x19, x20, undef, x0, x1, x2, x3, x26, x0, x28, x28, (D 0), (D 1), x32, x32, (D_1 0), (D_1 1), x36, x36, (D_2 0), (D_2 1), x40, x40, (D_3 0), (D_3 1), x44, x44, (D_4 0), (D_4 1), x48, x48] ++ [(D_5 0), (D_5 1), x52, x52, (D_6 0), (D_6 1), x56, x26, x58, x56, x60, x26, x62, undef, x3, x0, x1, x2, x3, (.int .i64 0), (.int .i64 0), x71, x17, x4, x74, x75, (D_8 5), (D_8 6), (D_8 7), (D_8 8), (D_8 9), (D_8 10), (D_8 11), (D_8 12), (D_8 13), (D_8 14), (D_8 15), (D_8 16), (D_8 17), (D_8 18), (D_8 19), (D_8 20), (D_8 21), (D_8 22), (D_8 23), (D_8 24), (D_8 25), (D_8 26), (D_8 27), (D_8 28)] ++ [(D_8 29), (D_8 30), (D_8 31), (D_8 32), (D_8 33), (D_8 34), (D_8 35), (D_8 36), (D_8 37), (D_8 38), (D_8 39), (D_8 40), (D_8 41), (D_8 42), (D_8 43), (D_8 44), (D_8 45), (D_8 46), (D_8 47), (D_8 48), (D_8 49), (D_8 50), (D_8 51), (D_8 52), (D_8 53), (D_8 54), (D_8 55), (D_8 56), (D_8 57), (D_8 58), (D_8 59), (D_8 60), (D_8 61), (D_8 62), (D_8 63), (D_8 64), (D_8 65), (D_8 66), undef]).toArray, []⟩) (by kernel_rfl) ?_
                          refine wp_if rfl H (fun H => ?_) (fun H => ?_)
                          · refine wp_skip ?_
                            refine then_normal ?_
                            refine fr_eq (b := ⟨([x0, x1, x2, x3, x4, undef, undef, undef, undef, undef, (D_8 0), x26, x56, x13, x14, x15, x16, x17, x4, x19, x20, undef, x0, x1, x2, x3, x26, x0, x28, x28, (D 0), (D 1), x32, x32, (D_1 0), (D_1 1), x36, x36, (D_2 0), (D_2 1), x40, x40, (D_3 0), (D_3 1), x44, x44, (D_4 0), (D_4 1), x48, x48] ++ [(D_5 0), (D_5 1), x52, x52, (D_6 0), (D_6 1), x56, x26, x58, x56, x60, x26, x62, undef, x3, x0, x1, x2, x3, (.int .i64 0), (.int .i64 0), x71, x17, x4, x74, x75, (D_8 5), (D_8 6), (D_8 7), (D_8 8), (D_8 9), (D_8 10), (D_8 11), (D_8 12), (D_8 13), (D_8 14), (D_8 15), (D_8 16), (D_8 17), (D_8 18), (D_8 19), (D_8 20), (D_8 21), (D_8 22), (D_8 23), (D_8 24), (D_8 25), (D_8 26), (D_8 27), (D_8 28)] ++ [(D_8 29), (D_8 30), (D_8 31), (D_8 32), (D_8 33), (D_8 34), (D_8 35), (D_8 36), (D_8 37), (D_8 38), (D_8 39), (D_8 40), (D_8 41), (D_8 42), (D_8 43), (D_8 44), (D_8 45), (D_8 46), (D_8 47), (D_8 48), (D_8 49), (D_8 50), (D_8 51), (D_8 52), (D_8 53), (D_8 54), (D_8 55), (D_8 56), (D_8 57), (D_8 58), (D_8 59), (D_8 60), (D_8 61), (D_8 62), (D_8 63), (D_8 64), (D_8 65), (D_8 66), undef]).toArray, []⟩) (by kernel_rfl) ?_
                            refine wp_seq ?_
                            refine wp_join (fun a w => ∃ (D_9 : Nat → Value) (x13_1 x14_1 x15_1 x16_1 : Value) (h_7 : Heap), a = ⟨([x0, x1, x2, x3, x4, undef, undef, undef, undef, undef, (D_9 0), x26, x56, x13_1, x14_1, x15_1, x16_1, x17, x4, x19, x20, undef, x0, x1, x2, x3, x26, x0, x28, x28, (D 0), (D 1), x32, x32, (D_1 0), (D_1 1), x36, x36, (D_2 0), (D_2 1), x40, x40, (D_3 0), (D_3 1), x44, x44, (D_4 0), (D_4 1), x48, x48] ++ [(D_5 0), (D_5 1), x52, x52, (D_6 0), (D_6 1), x56, x26, x58, x56, x60, x26, x62, undef, x3, x0, x1, x2, x3, (.int .i64 0), (.int .i64 0), x71, x17, x4, x74, x75, (D_8 5), (D_8 6), (D_9 1), (D_9 2), (D_9 3), (D_9 4), (D_9 5), (D_9 6), (D_9 7), (D_9 8), (D_9 9), (D_9 10), (D_9 11), (D_9 12), (D_9 13), (D_9 14), (D_9 15), (D_9 16), (D_9 17), (D_9 18), (D_9 19), (D_9 20), (D_9 21), (D_9 22)] ++ [(D_9 23), (D_9 24), (D_9 25), (D_9 26), (D_9 27), (D_9 28), (D_9 29), (D_9 30), (D_9 31), (D_9 32), (D_9 33), (D_9 34), (D_9 35), (D_9 36), (D_9 37), (D_9 38), (D_9 39), (D_9 40), (D_9 41), (D_9 42), (D_9 43), (D_9 44), (D_9 45), (D_9 46), (D_9 47), (D_9 48), (D_9 49), (D_9 50), (D_9 51), (D_9 52), (D_9 53), (D_9 54), (D_9 55), (D_9 56), (D_9 57), (D_9 58), (D_9 59), (D_9 60), undef]).toArray, []⟩ ∧ At w0 w h_7 ∧ betonylaw20_PatienceTells_j3 (fun x13' x14' x15' x16' x17' h' => I (x13', x14', x15', x16', x17') h' ∧ m (x13', x14', x15', x16', x17') h' < m (x13, x14, x15, x16, x17) h_6) x17 x13_1 x14_1 x15_1 x16_1 h_7) ?_ ?_
                            · refine wp_block ?_
                              refine wp_seq ?_
                              refine wp_seq ?_
                              refine lwp_list ?_
                              refine ls_move (x := x26) (by kernel_rfl) (by kernel_rfl) ?_
                              refine ls_d (d := some 79) (by kernel_rfl) (by kernel_rfl) HA_13 (d_call (by kernel_rfl) (by kernel_rfl) H) (fun x79 h_8 w_15 H HA_15 => ?_)
                              refine ls_move (x := x16) (by kernel_rfl) (by kernel_rfl) ?_
                              refine ls_p (d := some 81) (by kernel_rfl) (by kernel_rfl) (p_neqB Try.underlying4 (by kernel_rfl) (by kernel_rfl) H) (fun x81 H => ?_)
                              refine ls_move (x := x81) (by kernel_rfl) (by kernel_rfl) ?_
                              refine ls_orh [(), (), (), (), (), (), ()] (fun K a w => ∃ (D_10 : Nat → Value) (x89 : Value) (h_9 : Heap), a = ⟨([x0, x1, x2, x3, x4, undef, undef, undef, undef, undef, (D_8 0), x26, x56, x13, x14, x15, x16, x17, x4, x19, x20, undef, x0, x1, x2, x3, x26, x0, x28, x28, (D 0), (D 1), x32, x32, (D_1 0), (D_1 1), x36, x36, (D_2 0), (D_2 1), x40, x40, (D_3 0), (D_3 1), x44, x44, (D_4 0), (D_4 1), x48, x48] ++ [(D_5 0), (D_5 1), x52, x52, (D_6 0), (D_6 1), x56, x26, x58, x56, x60, x26, x62, undef, x3, x0, x1, x2, x3, (.int .i64 0), (.int .i64 0), x71, x17, x4, x74, x75, (D_8 5), (D_8 6), x26, x79, x16, x81, x81, (D_10 0), (D_10 1), (D_10 2), (D_10 3), (D_10 4), (D_10 5), x89, (D_8 19), (D_8 20), (D_8 21), (D_8 22), (D_8 23), (D_8 24), (D_8 25), (D_8 26), (D_8 27), (D_8 28)] ++ [(D_8 29), (D_8 30), (D_8 31), (D_8 32), (D_8 33), (D_8 34), (D_8 35), (D_8 36), (D_8 37), (D_8 38), (D_8 39), (D_8 40), (D_8 41), (D_8 42), (D_8 43), (D_8 44), (D_8 45), (D_8 46), (D_8 47), (D_8 48), (D_8 49), (D_8 50), (D_8 51), (D_8 52), (D_8 53), (D_8 54), (D_8 55), (D_8 56), (D_8 57), (D_8 58), (D_8 59), (D_8 60), (D_8 61), (D_8 62), (D_8 63), (D_8 64), (D_8 65), (D_8 66), undef]).toArray, []⟩ ∧ At w0 w h_9 ∧ K x89 h_9) H (fun hb_1 H => ?_) (fun hb_1 H => ?_) ?_
                              · refine ls_move (x := x26) (by rw [hb_1]; kernel_rfl) (by kernel_rfl) ?_
                                refine ls_fr (b := ⟨([x0, x1, x2, x3, x4, undef, undef, undef, undef, undef, (D_8 0), x26, x56, x13, x14, x15, x16, x17, x4, x19, x20, undef, x0, x1, x2, x3, x26, x0, x28, x28, (D 0), (D 1), x32, x32, (D_1 0), (D_1 1), x36, x36, (D_2 0), (D_2 1), x40, x40, (D_3 0), (D_3 1), x44, x44, (D_4 0), (D_4 1), x48, x48] ++ [(D_5 0), (D_5 1), x52, x52, (D_6 0), (D_6 1), x56, x26, x58, x56, x60, x26, x62, undef, x3, x0, x1, x2, x3, (.int .i64 0), (.int .i64 0), x71, x17, x4, x74, x75, (D_8 5), (D_8 6), x26, x79, x16, x81, x81, x26, (D_8 13), (D_8 14), (D_8 15), (D_8 16), (D_8 17), (D_8 18), (D_8 19), (D_8 20), (D_8 21), (D_8 22), (D_8 23), (D_8 24), (D_8 25), (D_8 26), (D_8 27), (D_8 28)] ++ [(D_8 29), (D_8 30), (D_8 31), (D_8 32), (D_8 33), (D_8 34), (D_8 35), (D_8 36), (D_8 37), (D_8 38), (D_8 39), (D_8 40), (D_8 41), (D_8 42), (D_8 43), (D_8 44), (D_8 45), (D_8 46), (D_8 47), (D_8 48), (D_8 49), (D_8 50), (D_8 51), (D_8 52), (D_8 53), (D_8 54), (D_8 55), (D_8 56), (D_8 57), (D_8 58), (D_8 59), (D_8 60), (D_8 61), (D_8 62), (D_8 63), (D_8 64), (D_8 65), (D_8 66), undef]).toArray, []⟩) (by kernel_rfl) ?_
                                refine ls_d (d := some 84) (by kernel_rfl) (by rw [hb_1]; kernel_rfl) HA_15 (d_call (by kernel_rfl) (by kernel_rfl) H) (fun x84 h_15 w_23 H HA_23 => ?_)
                                refine ls_move (x := x13) (by rw [hb_1]; kernel_rfl) (by kernel_rfl) ?_
                                refine ls_move (x := x2) (by rw [hb_1]; kernel_rfl) (by kernel_rfl) ?_
                                refine ls_p (d := some 87) (by kernel_rfl) (by rw [hb_1]; kernel_rfl) (p_min (by kernel_rfl) (by kernel_rfl) H) (fun x87 H => ?_)
                                refine ls_p (d := some 88) (by kernel_rfl) (by rw [hb_1]; kernel_rfl) (p_sNe (by kernel_rfl) (by kernel_rfl) H) (fun x88 H => ?_)
                                refine ls_pick_f (y := x88) (by kernel_rfl) (by rw [hb_1]; kernel_rfl) (by kernel_rfl) ?_
                                refine ls_nil ?_
                                refine then_normal ?_
                                exact ⟨(fun i => ([x26, x84, x13, x2, x87, x88]).getD i undef), x88, h_15, by kernel_rfl, HA_23, H⟩
                              · refine ls_skip (d := some 83) (by kernel_rfl) (by rw [hb_1]; kernel_rfl) ?_
                                refine ls_fr (b := ⟨([x0, x1, x2, x3, x4, undef, undef, undef, undef, undef, (D_8 0), x26, x56, x13, x14, x15, x16, x17, x4, x19, x20, undef, x0, x1, x2, x3, x26, x0, x28, x28, (D 0), (D 1), x32, x32, (D_1 0), (D_1 1), x36, x36, (D_2 0), (D_2 1), x40, x40, (D_3 0), (D_3 1), x44, x44, (D_4 0), (D_4 1), x48, x48] ++ [(D_5 0), (D_5 1), x52, x52, (D_6 0), (D_6 1), x56, x26, x58, x56, x60, x26, x62, undef, x3, x0, x1, x2, x3, (.int .i64 0), (.int .i64 0), x71, x17, x4, x74, x75, (D_8 5), (D_8 6), x26, x79, x16, x81, x81, undef, (D_8 13), (D_8 14), (D_8 15), (D_8 16), (D_8 17), (D_8 18), (D_8 19), (D_8 20), (D_8 21), (D_8 22), (D_8 23), (D_8 24), (D_8 25), (D_8 26), (D_8 27), (D_8 28)] ++ [(D_8 29), (D_8 30), (D_8 31), (D_8 32), (D_8 33), (D_8 34), (D_8 35), (D_8 36), (D_8 37), (D_8 38), (D_8 39), (D_8 40), (D_8 41), (D_8 42), (D_8 43), (D_8 44), (D_8 45), (D_8 46), (D_8 47), (D_8 48), (D_8 49), (D_8 50), (D_8 51), (D_8 52), (D_8 53), (D_8 54), (D_8 55), (D_8 56), (D_8 57), (D_8 58), (D_8 59), (D_8 60), (D_8 61), (D_8 62), (D_8 63), (D_8 64), (D_8 65), (D_8 66), undef]).toArray, []⟩) (by kernel_rfl) ?_
                                refine ls_skip (d := some 84) (by kernel_rfl) (by rw [hb_1]; kernel_rfl) ?_
                                refine ls_skip (d := some 85) (by kernel_rfl) (by rw [hb_1]; kernel_rfl) ?_
                                refine ls_skip (d := some 86) (by kernel_rfl) (by rw [hb_1]; kernel_rfl) ?_
                                refine ls_skip (d := some 87) (by kernel_rfl) (by rw [hb_1]; kernel_rfl) ?_
                                refine ls_skip (d := some 88) (by kernel_rfl) (by rw [hb_1]; kernel_rfl) ?_
                                refine ls_pick_t (x := (.bool true)) (by kernel_rfl) (by rw [hb_1]; kernel_rfl) (by kernel_rfl) ?_
                                refine ls_nil ?_
                                refine then_normal ?_
                                exact ⟨(fun i => ([undef, undef, undef, undef, undef, undef]).getD i undef), (.bool true), h_8, by kernel_rfl, HA_15, H⟩
                              · rintro _ w_16 ⟨D_10, x89, h_9, rfl, HA_16, H⟩
                                refine ls_nil ?_
                                refine then_normal ?_
                                refine fr_eq (b := ⟨([x0, x1, x2, x3, x4, undef, undef, undef, undef, undef, (D_8 0), x26, x56, x13, x14, x15, x16, x17, x4, x19, x20, undef, x0, x1, x2, x3, x26, x0, x28, x28, (D 0), (D 1), x32, x32, (D_1 0), (D_1 1), x36, x36, (D_2 0), (D_2 1), x40, x40, (D_3 0), (D_3 1), x44, x44, (D_4 0), (D_4 1), x48, x48] ++ [(D_5 0), (D_5 1), x52, x52, (D_6 0), (D_6 1), x56, x26, x58, x56, x60, x26, x62, undef, x3, x0, x1, x2, x3, (.int .i64 0), (.int .i64 0), x71, x17, x4, x74, x75, (D_8 5), (D_8 6), x26, x79, x16, x81, x81, (D_10 0), (D_10 1), (D_10 2), (D_10 3), (D_10 4), (D_10 5), x89, (D_8 19), (D_8 20), (D_8 21), (D_8 22), (D_8 23), (D_8 24), (D_8 25), (D_8 26), (D_8 27), (D_8 28)] ++ [(D_8 29), (D_8 30), (D_8 31), (D_8 32), (D_8 33), (D_8 34), (D_8 35), (D_8 36), (D_8 37), (D_8 38), (D_8 39), (D_8 40), (D_8 41), (D_8 42), (D_8 43), (D_8 44), (D_8 45), (D_8 46), (D_8 47), (D_8 48), (D_8 49), (D_8 50), (D_8 51), (D_8 52), (D_8 53), (D_8 54), (D_8 55), (D_8 56), (D_8 57), (D_8 58), (D_8 59), (D_8 60), (D_8 61), (D_8 62), (D_8 63), (D_8 64), (D_8 65), (D_8 66), undef]).toArray, []⟩) (by kernel_rfl) ?_
                                refine wp_if rfl H (fun H => ?_) (fun H => ?_)
                                · refine wp_seq ?_
                                  refine lwp_list ?_
                                  refine ls_assign (x := (.bool false)) (by kernel_rfl) (by kernel_rfl) ?_
                                  refine ls_nil ?_
                                  refine then_normal ?_
                                  refine fr_eq (b := ⟨([x0, x1, x2, x3, x4, undef, undef, undef, undef, undef, (.bool false), x26, x56, x13, x14, x15, x16, x17, x4, x19, x20, undef, x0, x1, x2, x3, x26, x0, x28, x28, (D 0), (D 1), x32, x32, (D_1 0), (D_1 1), x36, x36, (D_2 0), (D_2 1), x40, x40, (D_3 0), (D_3 1), x44, x44, (D_4 0), (D_4 1), x48, x48] ++ [(D_5 0), (D_5 1), x52, x52, (D_6 0), (D_6 1), x56, x26, x58, x56, x60, x26, x62, undef, x3, x0, x1, x2, x3, (.int .i64 0), (.int .i64 0), x71, x17, x4, x74, x75, (D_8 5), (D_8 6), x26, x79, x16, x81, x81, (D_10 0), (D_10 1), (D_10 2), (D_10 3), (D_10 4), (D_10 5), x89, (D_8 19), (D_8 20), (D_8 21), (D_8 22), (D_8 23), (D_8 24), (D_8 25), (D_8 26), (D_8 27), (D_8 28)] ++ [(D_8 29), (D_8 30), (D_8 31), (D_8 32), (D_8 33), (D_8 34), (D_8 35), (D_8 36), (D_8 37), (D_8 38), (D_8 39), (D_8 40), (D_8 41), (D_8 42), (D_8 43), (D_8 44), (D_8 45), (D_8 46), (D_8 47), (D_8 48), (D_8 49), (D_8 50), (D_8 51), (D_8 52), (D_8 53), (D_8 54), (D_8 55), (D_8 56), (D_8 57), (D_8 58), (D_8 59), (D_8 60), (D_8 61), (D_8 62), (D_8 63), (D_8 64), (D_8 65), (D_8 66), undef]).toArray, []⟩) (by kernel_rfl) ?_
                                  refine wp_ret ?_
                                  refine then_ret ?_
                                  refine block_ret ?_
                                  refine then_ret ?_
                                  refine then_ret ?_
                                  refine then_ret ?_
                                  refine block_ret ?_
                                  refine then_ret ?_
                                  refine then_ret ?_
                                  exact end1 (Try.results3) (by kernel_rfl) (by kernel_rfl) HA_16 H _ (.inr rfl)
                                · refine wp_skip ?_
                                  refine then_normal ?_
                                  refine fr_eq (b := ⟨([x0, x1, x2, x3, x4, undef, undef, undef, undef, undef, (D_8 0), x26, x56, x13, x14, x15, x16, x17, x4, x19, x20, undef, x0, x1, x2, x3, x26, x0, x28, x28, (D 0), (D 1), x32, x32, (D_1 0), (D_1 1), x36, x36, (D_2 0), (D_2 1), x40, x40, (D_3 0), (D_3 1), x44, x44, (D_4 0), (D_4 1), x48, x48] ++ [(D_5 0), (D_5 1), x52, x52, (D_6 0), (D_6 1), x56, x26, x58, x56, x60, x26, x62, undef, x3, x0, x1, x2, x3, (.int .i64 0), (.int .i64 0), x71, x17, x4, x74, x75, (D_8 5), (D_8 6), x26, x79, x16, x81, x81, (D_10 0), (D_10 1), (D_10 2), (D_10 3), (D_10 4), (D_10 5), x89, (D_8 19), (D_8 20), (D_8 21), (D_8 22), (D_8 23), (D_8 24), (D_8 25), (D_8 26), (D_8 27), (D_8 28)] ++ [(D_8 29), (D_8 30), (D_8 31), (D_8 32), (D_8 33), (D_8 34), (D_8 35), (D_8 36), (D_8 37), (D_8 38), (D_8 39), (D_8 40), (D_8 41), (D_8 42), (D_8 43), (D_8 44), (D_8 45), (D_8 46), (D_8 47), (D_8 48), (D_8 49), (D_8 50), (D_8 51), (D_8 52), (D_8 53), (D_8 54), (D_8 55), (D_8 56), (D_8 57), (D_8 58), (D_8 59), (D_8 60), (D_8 61), (D_8 62), (D_8 63), (D_8 64), (D_8 65), (D_8 66), undef]).toArray, []⟩) (by kernel_rfl) ?_
                                  refine wp_seq ?_
                                  refine wp_seq ?_
                                  refine lwp_list ?_
                                  refine ls_move (x := x17) (by kernel_rfl) (by kernel_rfl) ?_
                                  refine ls_move (x := x4) (by kernel_rfl) (by kernel_rfl) ?_
                                  refine ls_p (d := some 92) (by kernel_rfl) (by kernel_rfl) (p_len Try.underlying22 (by kernel_rfl) H) (fun x92 H => ?_)
                                  refine ls_p (d := some 93) (by kernel_rfl) (by kernel_rfl) (p_sEq (by kernel_rfl) (by kernel_rfl) H) (fun x93 H => ?_)
                                  refine ls_nil ?_
                                  refine then_normal ?_
                                  refine fr_eq (b := ⟨([x0, x1, x2, x3, x4, undef, undef, undef, undef, undef, (D_8 0), x26, x56, x13, x14, x15, x16, x17, x4, x19, x20, undef, x0, x1, x2, x3, x26, x0, x28, x28, (D 0), (D 1), x32, x32, (D_1 0), (D_1 1), x36, x36, (D_2 0), (D_2 1), x40, x40, (D_3 0), (D_3 1), x44, x44, (D_4 0), (D_4 1), x48, x48] ++ [(D_5 0), (D_5 1), x52, x52, (D_6 0), (D_6 1), x56, x26, x58, x56, x60, x26, x62, undef, x3, x0, x1, x2, x3, (.int .i64 0), (.int .i64 0), x71, x17, x4, x74, x75, (D_8 5), (D_8 6), x26, x79, x16, x81, x81, (D_10 0), (D_10 1), (D_10 2), (D_10 3), (D_10 4), (D_10 5), x89, x17, x4, x92, x93, (D_8 23), (D_8 24), (D_8 25), (D_8 26), (D_8 27), (D_8 28)] ++ [(D_8 29), (D_8 30), (D_8 31), (D_8 32), (D_8 33), (D_8 34), (D_8 35), (D_8 36), (D_8 37), (D_8 38), (D_8 39), (D_8 40), (D_8 41), (D_8 42), (D_8 43), (D_8 44), (D_8 45), (D_8 46), (D_8 47), (D_8 48), (D_8 49), (D_8 50), (D_8 51), (D_8 52), (D_8 53), (D_8 54), (D_8 55), (D_8 56), (D_8 57), (D_8 58), (D_8 59), (D_8 60), (D_8 61), (D_8 62), (D_8 63), (D_8 64), (D_8 65), (D_8 66), undef]).toArray, []⟩) (by kernel_rfl) ?_
                                  refine wp_if rfl H (fun H => ?_) (fun H => ?_)
                                  · refine wp_exit ?_
                                    refine then_exit ?_
                                    refine block_other rfl ?_
                                    refine then_exit ?_
                                    refine then_exit ?_
                                    refine then_exit ?_
                                    refine block_exit ?_
                                    exact ⟨(fun i => ([(D_8 0), x13, x14, x15, x16, x17, x17, x4, x74, x75, (D_8 5), (D_8 6), x26, x79, x16, x81, x81, (D_10 0), (D_10 1), (D_10 2), (D_10 3), (D_10 4), (D_10 5), x89, x17, x4, x92, x93, (D_8 23), (D_8 24), (D_8 25), (D_8 26), (D_8 27), (D_8 28), (D_8 29), (D_8 30), (D_8 31), (D_8 32), (D_8 33), (D_8 34), (D_8 35), (D_8 36), (D_8 37), (D_8 38), (D_8 39), (D_8 40), (D_8 41), (D_8 42), (D_8 43), (D_8 44)] ++ [(D_8 45), (D_8 46), (D_8 47), (D_8 48), (D_8 49), (D_8 50), (D_8 51), (D_8 52), (D_8 53), (D_8 54), (D_8 55), (D_8 56), (D_8 57), (D_8 58), (D_8 59), (D_8 60), (D_8 61), (D_8 62), (D_8 63), (D_8 64), (D_8 65), (D_8 66)]).getD i undef), h_9, by kernel_rfl, HA_16, H⟩
                                  · refine wp_skip ?_
                                    refine then_normal ?_
                                    refine fr_eq (b := ⟨([x0, x1, x2, x3, x4, undef, undef, undef, undef, undef, (D_8 0), x26, x56, x13, x14, x15, x16, x17, x4, x19, x20, undef, x0, x1, x2, x3, x26, x0, x28, x28, (D 0), (D 1), x32, x32, (D_1 0), (D_1 1), x36, x36, (D_2 0), (D_2 1), x40, x40, (D_3 0), (D_3 1), x44, x44, (D_4 0), (D_4 1), x48, x48] ++ [(D_5 0), (D_5 1), x52, x52, (D_6 0), (D_6 1), x56, x26, x58, x56, x60, x26, x62, undef, x3, x0, x1, x2, x3, (.int .i64 0), (.int .i64 0), x71, x17, x4, x74, x75, (D_8 5), (D_8 6), x26, x79, x16, x81, x81, (D_10 0), (D_10 1), (D_10 2), (D_10 3), (D_10 4), (D_10 5), x89, x17, x4, x92, x93, (D_8 23), (D_8 24), (D_8 25), (D_8 26), (D_8 27), (D_8 28)] ++ [(D_8 29), (D_8 30), (D_8 31), (D_8 32), (D_8 33), (D_8 34), (D_8 35), (D_8 36), (D_8 37), (D_8 38), (D_8 39), (D_8 40), (D_8 41), (D_8 42), (D_8 43), (D_8 44), (D_8 45), (D_8 46), (D_8 47), (D_8 48), (D_8 49), (D_8 50), (D_8 51), (D_8 52), (D_8 53), (D_8 54), (D_8 55), (D_8 56), (D_8 57), (D_8 58), (D_8 59), (D_8 60), (D_8 61), (D_8 62), (D_8 63), (D_8 64), (D_8 65), (D_8 66), undef]).toArray, []⟩) (by kernel_rfl) ?_
                                    refine wp_seq ?_
                                    refine wp_seq ?_
                                    refine lwp_list ?_
                                    refine ls_move (x := x4) (by kernel_rfl) (by kernel_rfl) ?_
                                    refine ls_move (x := x17) (by kernel_rfl) (by kernel_rfl) ?_
                                    refine ls_p (d := some 96) (by kernel_rfl) (by kernel_rfl) (p_ixs Try.underlying22 Try.sizeOf3 (by kernel_rfl) (by kernel_rfl) H) (fun x96 H => ?_)
                                    refine ls_y (d := some 97) (by kernel_rfl) (by kernel_rfl) HA_16 (y_ld Try.isAgg3 (by kernel_rfl) H) (fun x97 H => ?_)
                                    refine ls_p (d := some 98) (by kernel_rfl) (by kernel_rfl) (p_sGt (by kernel_rfl) (by kernel_rfl) H) (fun x98 H => ?_)
                                    refine ls_nil ?_
                                    refine then_normal ?_
                                    refine fr_eq (b := ⟨([x0, x1, x2, x3, x4, undef, undef, undef, undef, undef, (D_8 0), x26, x56, x13, x14, x15, x16, x17, x4, x19, x20, undef, x0, x1, x2, x3, x26, x0, x28, x28, (D 0), (D 1), x32, x32, (D_1 0), (D_1 1), x36, x36, (D_2 0), (D_2 1), x40, x40, (D_3 0), (D_3 1), x44, x44, (D_4 0), (D_4 1), x48, x48] ++ [(D_5 0), (D_5 1), x52, x52, (D_6 0), (D_6 1), x56, x26, x58, x56, x60, x26, x62, undef, x3, x0, x1, x2, x3, (.int .i64 0), (.int .i64 0), x71, x17, x4, x74, x75, (D_8 5), (D_8 6), x26, x79, x16, x81, x81, (D_10 0), (D_10 1), (D_10 2), (D_10 3), (D_10 4), (D_10 5), x89, x17, x4, x92, x93, x4, x17, x96, x97, x98, (D_8 28)] ++ [(D_8 29), (D_8 30), (D_8 31), (D_8 32), (D_8 33), (D_8 34), (D_8 35), (D_8 36), (D_8 37), (D_8 38), (D_8 39), (D_8 40), (D_8 41), (D_8 42), (D_8 43), (D_8 44), (D_8 45), (D_8 46), (D_8 47), (D_8 48), (D_8 49), (D_8 50), (D_8 51), (D_8 52), (D_8 53), (D_8 54), (D_8 55), (D_8 56), (D_8 57), (D_8 58), (D_8 59), (D_8 60), (D_8 61), (D_8 62), (D_8 63), (D_8 64), (D_8 65), (D_8 66), undef]).toArray, []⟩) (by kernel_rfl) ?_
                                    refine wp_join (fun a w => ∃ (D_11 : Nat → Value) (h_10 : Heap), a = ⟨([x0, x1, x2, x3, x4, undef, undef, undef, undef, undef, (D_8 0), x26, x56, x13, x14, x15, x16, x17, x4, x19, x20, undef, x0, x1, x2, x3, x26, x0, x28, x28, (D 0), (D 1), x32, x32, (D_1 0), (D_1 1), x36, x36, (D_2 0), (D_2 1), x40, x40, (D_3 0), (D_3 1), x44, x44, (D_4 0), (D_4 1), x48, x48] ++ [(D_5 0), (D_5 1), x52, x52, (D_6 0), (D_6 1), x56, x26, x58, x56, x60, x26, x62, undef, x3, x0, x1, x2, x3, (.int .i64 0), (.int .i64 0), x71, x17, x4, x74, x75, (D_8 5), (D_8 6), x26, x79, x16, x81, x81, (D_10 0), (D_10 1), (D_10 2), (D_10 3), (D_10 4), (D_10 5), x89, x17, x4, x92, x93, x4, x17, x96, x97, x98, (D_11 0)] ++ [(D_11 1), (D_11 2), (D_11 3), (D_11 4), (D_11 5), (D_11 6), (D_11 7), (D_8 36), (D_8 37), (D_8 38), (D_8 39), (D_8 40), (D_8 41), (D_8 42), (D_8 43), (D_8 44), (D_8 45), (D_8 46), (D_8 47), (D_8 48), (D_8 49), (D_8 50), (D_8 51), (D_8 52), (D_8 53), (D_8 54), (D_8 55), (D_8 56), (D_8 57), (D_8 58), (D_8 59), (D_8 60), (D_8 61), (D_8 62), (D_8 63), (D_8 64), (D_8 65), (D_8 66), undef]).toArray, []⟩ ∧ At w0 w h_10 ∧ betonylaw20_PatienceTells_j4 (fun x13' x14' x15' x16' x17' h' => I (x13', x14', x15', x16', x17') h' ∧ m (x13', x14', x15', x16', x17') h' < m (x13, x14, x15, x16, x17) h_6) x0 x1 x2 x4 x13 x14 x15 x16 x17 h_10) ?_ ?_
                                    · refine wp_if rfl H (fun H => ?_) (fun H => ?_)
                                      · refine lwp_list ?_
                                        refine ls_move (x := x26) (by kernel_rfl) (by kernel_rfl) ?_
                                        refine ls_move (x := x4) (by kernel_rfl) (by kernel_rfl) ?_
                                        refine ls_move (x := x17) (by kernel_rfl) (by kernel_rfl) ?_
                                        refine ls_p (d := some 102) (by kernel_rfl) (by kernel_rfl) (p_ixs Try.underlying22 Try.sizeOf3 (by kernel_rfl) (by kernel_rfl) H) (fun x102 H => ?_)
                                        refine ls_y (d := some 103) (by kernel_rfl) (by kernel_rfl) HA_16 (y_ld Try.isAgg3 (by kernel_rfl) H) (fun x103 H => ?_)
                                        refine ls_d (d := some 104) (by kernel_rfl) (by kernel_rfl) HA_16 (d_call (by kernel_rfl) (by kernel_rfl) H) (fun x104 h_13 w_21 H HA_21 => ?_)
                                        refine ls_nil ?_
                                        exact ⟨(fun i => ([x26, x4, x17, x102, x103, x104, (D_8 34), (D_8 35)]).getD i undef), h_13, by kernel_rfl, HA_21, H⟩
                                      · refine lwp_list ?_
                                        refine ls_move (x := x26) (by kernel_rfl) (by kernel_rfl) ?_
                                        refine ls_d (d := some 106) (by kernel_rfl) (by kernel_rfl) HA_16 (d_call (by kernel_rfl) (by kernel_rfl) H) (fun x106 h_14 w_22 H HA_22 => ?_)
                                        refine ls_nil ?_
                                        exact ⟨(fun i => ([(D_8 28), (D_8 29), (D_8 30), (D_8 31), (D_8 32), (D_8 33), x26, x106]).getD i undef), h_14, by kernel_rfl, HA_22, H⟩
                                    · rintro _ w_17 ⟨D_11, h_10, rfl, HA_17, H⟩
                                      unfold betonylaw20_PatienceTells_j4 at H
                                      refine then_normal ?_
                                      refine fr_eq (b := ⟨([x0, x1, x2, x3, x4, undef, undef, undef, undef, undef, (D_8 0), x26, x56, x13, x14, x15, x16, x17, x4, x19, x20, undef, x0, x1, x2, x3, x26, x0, x28, x28, (D 0), (D 1), x32, x32, (D_1 0), (D_1 1), x36, x36, (D_2 0), (D_2 1), x40, x40, (D_3 0), (D_3 1), x44, x44, (D_4 0), (D_4 1), x48, x48] ++ [(D_5 0), (D_5 1), x52, x52, (D_6 0), (D_6 1), x56, x26, x58, x56, x60, x26, x62, undef, x3, x0, x1, x2, x3, (.int .i64 0), (.int .i64 0), x71, x17, x4, x74, x75, (D_8 5), (D_8 6), x26, x79, x16, x81, x81, (D_10 0), (D_10 1), (D_10 2), (D_10 3), (D_10 4), (D_10 5), x89, x17, x4, x92, x93, x4, x17, x96, x97, x98, (D_11 0)] ++ [(D_11 1), (D_11 2), (D_11 3), (D_11 4), (D_11 5), (D_11 6), (D_11 7), (D_8 36), (D_8 37), (D_8 38), (D_8 39), (D_8 40), (D_8 41), (D_8 42), (D_8 43), (D_8 44), (D_8 45), (D_8 46), (D_8 47), (D_8 48), (D_8 49), (D_8 50), (D_8 51), (D_8 52), (D_8 53), (D_8 54), (D_8 55), (D_8 56), (D_8 57), (D_8 58), (D_8 59), (D_8 60), (D_8 61), (D_8 62), (D_8 63), (D_8 64), (D_8 65), (D_8 66), undef]).toArray, []⟩) (by kernel_rfl) ?_
                                      refine wp_seq ?_
                                      refine wp_seq ?_
                                      refine lwp_list ?_
                                      refine ls_move (x := x16) (by kernel_rfl) (by kernel_rfl) ?_
                                      refine ls_move (x := x16) (by kernel_rfl) (by kernel_rfl) ?_
                                      refine ls_or [(), (), (), (), (), ()] (fun K a w => ∃ (D_12 : Nat → Value) (x114 : Value), a = ⟨([x0, x1, x2, x3, x4, undef, undef, undef, undef, undef, (D_8 0), x26, x56, x13, x14, x15, x16, x17, x4, x19, x20, undef, x0, x1, x2, x3, x26, x0, x28, x28, (D 0), (D 1), x32, x32, (D_1 0), (D_1 1), x36, x36, (D_2 0), (D_2 1), x40, x40, (D_3 0), (D_3 1), x44, x44, (D_4 0), (D_4 1), x48, x48] ++ [(D_5 0), (D_5 1), x52, x52, (D_6 0), (D_6 1), x56, x26, x58, x56, x60, x26, x62, undef, x3, x0, x1, x2, x3, (.int .i64 0), (.int .i64 0), x71, x17, x4, x74, x75, (D_8 5), (D_8 6), x26, x79, x16, x81, x81, (D_10 0), (D_10 1), (D_10 2), (D_10 3), (D_10 4), (D_10 5), x89, x17, x4, x92, x93, x4, x17, x96, x97, x98, (D_11 0)] ++ [(D_11 1), (D_11 2), (D_11 3), (D_11 4), (D_11 5), (D_11 6), (D_11 7), x16, x16, (D_12 0), (D_12 1), (D_12 2), (D_12 3), (D_12 4), x114, (D_8 44), (D_8 45), (D_8 46), (D_8 47), (D_8 48), (D_8 49), (D_8 50), (D_8 51), (D_8 52), (D_8 53), (D_8 54), (D_8 55), (D_8 56), (D_8 57), (D_8 58), (D_8 59), (D_8 60), (D_8 61), (D_8 62), (D_8 63), (D_8 64), (D_8 65), (D_8 66), undef]).toArray, []⟩ ∧ At w0 w h_10 ∧ K x114) H (fun hb H => ?_) (fun hb H => ?_) ?_
                                      · refine ls_move (x := x4) (by rw [hb]; kernel_rfl) (by kernel_rfl) ?_
                                        refine ls_move (x := x17) (by rw [hb]; kernel_rfl) (by kernel_rfl) ?_
                                        refine ls_p (d := some 111) (by kernel_rfl) (by rw [hb]; kernel_rfl) (p_ixs Try.underlying22 Try.sizeOf3 (by kernel_rfl) (by kernel_rfl) H) (fun x111 H => ?_)
                                        refine ls_y (d := some 112) (by kernel_rfl) (by rw [hb]; kernel_rfl) HA_17 (y_ld Try.isAgg3 (by kernel_rfl) H) (fun x112 H => ?_)
                                        refine ls_fr (b := ⟨([x0, x1, x2, x3, x4, undef, undef, undef, undef, undef, (D_8 0), x26, x56, x13, x14, x15, x16, x17, x4, x19, x20, undef, x0, x1, x2, x3, x26, x0, x28, x28, (D 0), (D 1), x32, x32, (D_1 0), (D_1 1), x36, x36, (D_2 0), (D_2 1), x40, x40, (D_3 0), (D_3 1), x44, x44, (D_4 0), (D_4 1), x48, x48] ++ [(D_5 0), (D_5 1), x52, x52, (D_6 0), (D_6 1), x56, x26, x58, x56, x60, x26, x62, undef, x3, x0, x1, x2, x3, (.int .i64 0), (.int .i64 0), x71, x17, x4, x74, x75, (D_8 5), (D_8 6), x26, x79, x16, x81, x81, (D_10 0), (D_10 1), (D_10 2), (D_10 3), (D_10 4), (D_10 5), x89, x17, x4, x92, x93, x4, x17, x96, x97, x98, (D_11 0)] ++ [(D_11 1), (D_11 2), (D_11 3), (D_11 4), (D_11 5), (D_11 6), (D_11 7), x16, x16, x4, x17, x111, x112, (D_8 42), (D_8 43), (D_8 44), (D_8 45), (D_8 46), (D_8 47), (D_8 48), (D_8 49), (D_8 50), (D_8 51), (D_8 52), (D_8 53), (D_8 54), (D_8 55), (D_8 56), (D_8 57), (D_8 58), (D_8 59), (D_8 60), (D_8 61), (D_8 62), (D_8 63), (D_8 64), (D_8 65), (D_8 66), undef]).toArray, []⟩) (by kernel_rfl) ?_
                                        refine ls_p (d := some 113) (by kernel_rfl) (by rw [hb]; kernel_rfl) (p_sGt (by kernel_rfl) (by kernel_rfl) H) (fun x113 H => ?_)
                                        refine ls_pick_f (y := x113) (by kernel_rfl) (by rw [hb]; kernel_rfl) (by kernel_rfl) ?_
                                        refine ls_nil ?_
                                        refine then_normal ?_
                                        exact ⟨(fun i => ([x4, x17, x111, x112, x113]).getD i undef), x113, by kernel_rfl, HA_17, H⟩
                                      · refine ls_skip (d := some 109) (by kernel_rfl) (by rw [hb]; kernel_rfl) ?_
                                        refine ls_skip (d := some 110) (by kernel_rfl) (by rw [hb]; kernel_rfl) ?_
                                        refine ls_skip (d := some 111) (by kernel_rfl) (by rw [hb]; kernel_rfl) ?_
                                        refine ls_skip (d := some 112) (by kernel_rfl) (by rw [hb]; kernel_rfl) ?_
                                        refine ls_fr (b := ⟨([x0, x1, x2, x3, x4, undef, undef, undef, undef, undef, (D_8 0), x26, x56, x13, x14, x15, x16, x17, x4, x19, x20, undef, x0, x1, x2, x3, x26, x0, x28, x28, (D 0), (D 1), x32, x32, (D_1 0), (D_1 1), x36, x36, (D_2 0), (D_2 1), x40, x40, (D_3 0), (D_3 1), x44, x44, (D_4 0), (D_4 1), x48, x48] ++ [(D_5 0), (D_5 1), x52, x52, (D_6 0), (D_6 1), x56, x26, x58, x56, x60, x26, x62, undef, x3, x0, x1, x2, x3, (.int .i64 0), (.int .i64 0), x71, x17, x4, x74, x75, (D_8 5), (D_8 6), x26, x79, x16, x81, x81, (D_10 0), (D_10 1), (D_10 2), (D_10 3), (D_10 4), (D_10 5), x89, x17, x4, x92, x93, x4, x17, x96, x97, x98, (D_11 0)] ++ [(D_11 1), (D_11 2), (D_11 3), (D_11 4), (D_11 5), (D_11 6), (D_11 7), x16, x16, undef, undef, undef, undef, (D_8 42), (D_8 43), (D_8 44), (D_8 45), (D_8 46), (D_8 47), (D_8 48), (D_8 49), (D_8 50), (D_8 51), (D_8 52), (D_8 53), (D_8 54), (D_8 55), (D_8 56), (D_8 57), (D_8 58), (D_8 59), (D_8 60), (D_8 61), (D_8 62), (D_8 63), (D_8 64), (D_8 65), (D_8 66), undef]).toArray, []⟩) (by kernel_rfl) ?_
                                        refine ls_skip (d := some 113) (by kernel_rfl) (by rw [hb]; kernel_rfl) ?_
                                        refine ls_pick_t (x := (.bool true)) (by kernel_rfl) (by rw [hb]; kernel_rfl) (by kernel_rfl) ?_
                                        refine ls_nil ?_
                                        refine then_normal ?_
                                        exact ⟨(fun i => ([undef, undef, undef, undef, undef]).getD i undef), (.bool true), by kernel_rfl, HA_17, H⟩
                                      · rintro _ w_18 ⟨D_12, x114, rfl, HA_18, H⟩
                                        refine ls_nil ?_
                                        refine then_normal ?_
                                        refine fr_eq (b := ⟨([x0, x1, x2, x3, x4, undef, undef, undef, undef, undef, (D_8 0), x26, x56, x13, x14, x15, x16, x17, x4, x19, x20, undef, x0, x1, x2, x3, x26, x0, x28, x28, (D 0), (D 1), x32, x32, (D_1 0), (D_1 1), x36, x36, (D_2 0), (D_2 1), x40, x40, (D_3 0), (D_3 1), x44, x44, (D_4 0), (D_4 1), x48, x48] ++ [(D_5 0), (D_5 1), x52, x52, (D_6 0), (D_6 1), x56, x26, x58, x56, x60, x26, x62, undef, x3, x0, x1, x2, x3, (.int .i64 0), (.int .i64 0), x71, x17, x4, x74, x75, (D_8 5), (D_8 6), x26, x79, x16, x81, x81, (D_10 0), (D_10 1), (D_10 2), (D_10 3), (D_10 4), (D_10 5), x89, x17, x4, x92, x93, x4, x17, x96, x97, x98, (D_11 0)] ++ [(D_11 1), (D_11 2), (D_11 3), (D_11 4), (D_11 5), (D_11 6), (D_11 7), x16, x16, (D_12 0), (D_12 1), (D_12 2), (D_12 3), (D_12 4), x114, (D_8 44), (D_8 45), (D_8 46), (D_8 47), (D_8 48), (D_8 49), (D_8 50), (D_8 51), (D_8 52), (D_8 53), (D_8 54), (D_8 55), (D_8 56), (D_8 57), (D_8 58), (D_8 59), (D_8 60), (D_8 61), (D_8 62), (D_8 63), (D_8 64), (D_8 65), (D_8 66), undef]).toArray, []⟩) (by kernel_rfl) ?_
                                        refine wp_if rfl H (fun H => ?_) (fun H => ?_)
                                        · refine wp_exit ?_
                                          refine then_exit ?_
                                          refine block_exit ?_
                                          exact ⟨(fun i => ([(D_8 0), x26, x79, x16, x81, x81, (D_10 0), (D_10 1), (D_10 2), (D_10 3), (D_10 4), (D_10 5), x89, x17, x4, x92, x93, x4, x17, x96, x97, x98, (D_11 0), (D_11 1), (D_11 2), (D_11 3), (D_11 4), (D_11 5), (D_11 6), (D_11 7), x16, x16, (D_12 0), (D_12 1), (D_12 2), (D_12 3), (D_12 4), x114, (D_8 44), (D_8 45), (D_8 46), (D_8 47), (D_8 48), (D_8 49), (D_8 50), (D_8 51), (D_8 52), (D_8 53), (D_8 54), (D_8 55)] ++ [(D_8 56), (D_8 57), (D_8 58), (D_8 59), (D_8 60), (D_8 61), (D_8 62), (D_8 63), (D_8 64), (D_8 65), (D_8 66)]).getD i undef), x13, x14, x15, x16, h_10, by kernel_rfl, HA_18, H⟩
                                        · refine wp_skip ?_
                                          refine then_normal ?_
                                          refine fr_eq (b := ⟨([x0, x1, x2, x3, x4, undef, undef, undef, undef, undef, (D_8 0), x26, x56, x13, x14, x15, x16, x17, x4, x19, x20, undef, x0, x1, x2, x3, x26, x0, x28, x28, (D 0), (D 1), x32, x32, (D_1 0), (D_1 1), x36, x36, (D_2 0), (D_2 1), x40, x40, (D_3 0), (D_3 1), x44, x44, (D_4 0), (D_4 1), x48, x48] ++ [(D_5 0), (D_5 1), x52, x52, (D_6 0), (D_6 1), x56, x26, x58, x56, x60, x26, x62, undef, x3, x0, x1, x2, x3, (.int .i64 0), (.int .i64 0), x71, x17, x4, x74, x75, (D_8 5), (D_8 6), x26, x79, x16, x81, x81, (D_10 0), (D_10 1), (D_10 2), (D_10 3), (D_10 4), (D_10 5), x89, x17, x4, x92, x93, x4, x17, x96, x97, x98, (D_11 0)] ++ [(D_11 1), (D_11 2), (D_11 3), (D_11 4), (D_11 5), (D_11 6), (D_11 7), x16, x16, (D_12 0), (D_12 1), (D_12 2), (D_12 3), (D_12 4), x114, (D_8 44), (D_8 45), (D_8 46), (D_8 47), (D_8 48), (D_8 49), (D_8 50), (D_8 51), (D_8 52), (D_8 53), (D_8 54), (D_8 55), (D_8 56), (D_8 57), (D_8 58), (D_8 59), (D_8 60), (D_8 61), (D_8 62), (D_8 63), (D_8 64), (D_8 65), (D_8 66), undef]).toArray, []⟩) (by kernel_rfl) ?_
                                          refine wp_seq ?_
                                          refine wp_seq ?_
                                          refine lwp_list ?_
                                          refine ls_move (x := x4) (by kernel_rfl) (by kernel_rfl) ?_
                                          refine ls_move (x := x17) (by kernel_rfl) (by kernel_rfl) ?_
                                          refine ls_p (d := some 117) (by kernel_rfl) (by kernel_rfl) (p_ixs Try.underlying22 Try.sizeOf3 (by kernel_rfl) (by kernel_rfl) H) (fun x117 H => ?_)
                                          refine ls_y (d := some 118) (by kernel_rfl) (by kernel_rfl) HA_18 (y_ld Try.isAgg3 (by kernel_rfl) H) (fun x118 H => ?_)
                                          refine ls_p (d := some 119) (by kernel_rfl) (by kernel_rfl) (p_sGt (by kernel_rfl) (by kernel_rfl) H) (fun x119 H => ?_)
                                          refine ls_nil ?_
                                          refine then_normal ?_
                                          refine fr_eq (b := ⟨([x0, x1, x2, x3, x4, undef, undef, undef, undef, undef, (D_8 0), x26, x56, x13, x14, x15, x16, x17, x4, x19, x20, undef, x0, x1, x2, x3, x26, x0, x28, x28, (D 0), (D 1), x32, x32, (D_1 0), (D_1 1), x36, x36, (D_2 0), (D_2 1), x40, x40, (D_3 0), (D_3 1), x44, x44, (D_4 0), (D_4 1), x48, x48] ++ [(D_5 0), (D_5 1), x52, x52, (D_6 0), (D_6 1), x56, x26, x58, x56, x60, x26, x62, undef, x3, x0, x1, x2, x3, (.int .i64 0), (.int .i64 0), x71, x17, x4, x74, x75, (D_8 5), (D_8 6), x26, x79, x16, x81, x81, (D_10 0), (D_10 1), (D_10 2), (D_10 3), (D_10 4), (D_10 5), x89, x17, x4, x92, x93, x4, x17, x96, x97, x98, (D_11 0)] ++ [(D_11 1), (D_11 2), (D_11 3), (D_11 4), (D_11 5), (D_11 6), (D_11 7), x16, x16, (D_12 0), (D_12 1), (D_12 2), (D_12 3), (D_12 4), x114, x4, x17, x117, x118, x119, (D_8 49), (D_8 50), (D_8 51), (D_8 52), (D_8 53), (D_8 54), (D_8 55), (D_8 56), (D_8 57), (D_8 58), (D_8 59), (D_8 60), (D_8 61), (D_8 62), (D_8 63), (D_8 64), (D_8 65), (D_8 66), undef]).toArray, []⟩) (by kernel_rfl) ?_
                                          refine wp_join (fun a w => ∃ (D_13 : Nat → Value) (x13_2 x14_2 x15_2 : Value) (h_11 : Heap), a = ⟨([x0, x1, x2, x3, x4, undef, undef, undef, undef, undef, (D_8 0), x26, x56, x13_2, x14_2, x15_2, x16, x17, x4, x19, x20, undef, x0, x1, x2, x3, x26, x0, x28, x28, (D 0), (D 1), x32, x32, (D_1 0), (D_1 1), x36, x36, (D_2 0), (D_2 1), x40, x40, (D_3 0), (D_3 1), x44, x44, (D_4 0), (D_4 1), x48, x48] ++ [(D_5 0), (D_5 1), x52, x52, (D_6 0), (D_6 1), x56, x26, x58, x56, x60, x26, x62, undef, x3, x0, x1, x2, x3, (.int .i64 0), (.int .i64 0), x71, x17, x4, x74, x75, (D_8 5), (D_8 6), x26, x79, x16, x81, x81, (D_10 0), (D_10 1), (D_10 2), (D_10 3), (D_10 4), (D_10 5), x89, x17, x4, x92, x93, x4, x17, x96, x97, x98, (D_11 0)] ++ [(D_11 1), (D_11 2), (D_11 3), (D_11 4), (D_11 5), (D_11 6), (D_11 7), x16, x16, (D_12 0), (D_12 1), (D_12 2), (D_12 3), (D_12 4), x114, x4, x17, x117, x118, x119, (D_13 0), (D_13 1), (D_13 2), (D_13 3), (D_13 4), (D_13 5), (D_13 6), (D_13 7), (D_13 8), (D_13 9), (D_13 10), (D_8 60), (D_8 61), (D_8 62), (D_8 63), (D_8 64), (D_8 65), (D_8 66), undef]).toArray, []⟩ ∧ At w0 w h_11 ∧ betonylaw20_PatienceTells_j5 (fun x13' x14' x15' x16' x17' h' => I (x13', x14', x15', x16', x17') h' ∧ m (x13', x14', x15', x16', x17') h' < m (x13, x14, x15, x16, x17) h_6) x0 x1 x2 x17 x13_2 x14_2 x15_2 h_11) ?_ ?_
                                          · refine wp_if rfl H (fun H => ?_) (fun H => ?_)
                                            · refine wp_seq ?_
                                              refine lwp_list ?_
                                              refine ls_move (x := x13) (by kernel_rfl) (by kernel_rfl) ?_
                                              refine ls_move (x := x4) (by kernel_rfl) (by kernel_rfl) ?_
                                              refine ls_move (x := x17) (by kernel_rfl) (by kernel_rfl) ?_
                                              refine ls_p (d := some 123) (by kernel_rfl) (by kernel_rfl) (p_ixs Try.underlying22 Try.sizeOf3 (by kernel_rfl) (by kernel_rfl) H) (fun x123 H => ?_)
                                              refine ls_y (d := some 124) (by kernel_rfl) (by kernel_rfl) HA_18 (y_ld Try.isAgg3 (by kernel_rfl) H) (fun x124 H => ?_)
                                              refine ls_p (d := some 125) (by kernel_rfl) (by kernel_rfl) (p_add (by kernel_rfl) (by kernel_rfl) H) (fun x125 H => ?_)
                                              refine ls_fr (b := ⟨([x0, x1, x2, x3, x4, undef, undef, undef, undef, undef, (D_8 0), x26, x56, x13, x14, x15, x16, x17, x4, x19, x20, undef, x0, x1, x2, x3, x26, x0, x28, x28, (D 0), (D 1), x32, x32, (D_1 0), (D_1 1), x36, x36, (D_2 0), (D_2 1), x40, x40, (D_3 0), (D_3 1), x44, x44, (D_4 0), (D_4 1), x48, x48] ++ [(D_5 0), (D_5 1), x52, x52, (D_6 0), (D_6 1), x56, x26, x58, x56, x60, x26, x62, undef, x3, x0, x1, x2, x3, (.int .i64 0), (.int .i64 0), x71, x17, x4, x74, x75, (D_8 5), (D_8 6), x26, x79, x16, x81, x81, (D_10 0), (D_10 1), (D_10 2), (D_10 3), (D_10 4), (D_10 5), x89, x17, x4, x92, x93, x4, x17, x96, x97, x98, (D_11 0)] ++ [(D_11 1), (D_11 2), (D_11 3), (D_11 4), (D_11 5), (D_11 6), (D_11 7), x16, x16, (D_12 0), (D_12 1), (D_12 2), (D_12 3), (D_12 4), x114, x4, x17, x117, x118, x119, x13, x4, x17, x123, x124, x125, (D_8 55), (D_8 56), (D_8 57), (D_8 58), (D_8 59), (D_8 60), (D_8 61), (D_8 62), (D_8 63), (D_8 64), (D_8 65), (D_8 66), undef]).toArray, []⟩) (by kernel_rfl) ?_
                                              refine ls_p (d := some 126) (by kernel_rfl) (by kernel_rfl) (p_min (by kernel_rfl) (by kernel_rfl) H) (fun x126 H => ?_)
                                              refine ls_assign (x := x126) (by kernel_rfl) (by kernel_rfl) ?_
                                              refine ls_nil ?_
                                              refine then_normal ?_
                                              refine fr_eq (b := ⟨([x0, x1, x2, x3, x4, undef, undef, undef, undef, undef, (D_8 0), x26, x56, x126, x14, x15, x16, x17, x4, x19, x20, undef, x0, x1, x2, x3, x26, x0, x28, x28, (D 0), (D 1), x32, x32, (D_1 0), (D_1 1), x36, x36, (D_2 0), (D_2 1), x40, x40, (D_3 0), (D_3 1), x44, x44, (D_4 0), (D_4 1), x48, x48] ++ [(D_5 0), (D_5 1), x52, x52, (D_6 0), (D_6 1), x56, x26, x58, x56, x60, x26, x62, undef, x3, x0, x1, x2, x3, (.int .i64 0), (.int .i64 0), x71, x17, x4, x74, x75, (D_8 5), (D_8 6), x26, x79, x16, x81, x81, (D_10 0), (D_10 1), (D_10 2), (D_10 3), (D_10 4), (D_10 5), x89, x17, x4, x92, x93, x4, x17, x96, x97, x98, (D_11 0)] ++ [(D_11 1), (D_11 2), (D_11 3), (D_11 4), (D_11 5), (D_11 6), (D_11 7), x16, x16, (D_12 0), (D_12 1), (D_12 2), (D_12 3), (D_12 4), x114, x4, x17, x117, x118, x119, x13, x4, x17, x123, x124, x125, x126, (D_8 56), (D_8 57), (D_8 58), (D_8 59), (D_8 60), (D_8 61), (D_8 62), (D_8 63), (D_8 64), (D_8 65), (D_8 66), undef]).toArray, []⟩) (by kernel_rfl) ?_
                                              refine lwp_list ?_
                                              refine ls_assign (x := (.int .i64 0)) (by kernel_rfl) (by kernel_rfl) ?_
                                              refine ls_nil ?_
                                              exact ⟨(fun i => ([x13, x4, x17, x123, x124, x125, x126, (D_8 56), (D_8 57), (D_8 58), (D_8 59)]).getD i undef), x126, (.int .i64 0), x15, h_10, by kernel_rfl, HA_18, H⟩
                                            · refine wp_seq ?_
                                              refine lwp_list ?_
                                              refine ls_move (x := x14) (by kernel_rfl) (by kernel_rfl) ?_
                                              refine ls_p (d := some 128) (by kernel_rfl) (by kernel_rfl) (p_add (by kernel_rfl) (by kernel_rfl) H) (fun x128 H => ?_)
                                              refine ls_assign (x := x128) (by kernel_rfl) (by kernel_rfl) ?_
                                              refine ls_nil ?_
                                              refine then_normal ?_
                                              refine fr_eq (b := ⟨([x0, x1, x2, x3, x4, undef, undef, undef, undef, undef, (D_8 0), x26, x56, x13, x128, x15, x16, x17, x4, x19, x20, undef, x0, x1, x2, x3, x26, x0, x28, x28, (D 0), (D 1), x32, x32, (D_1 0), (D_1 1), x36, x36, (D_2 0), (D_2 1), x40, x40, (D_3 0), (D_3 1), x44, x44, (D_4 0), (D_4 1), x48, x48] ++ [(D_5 0), (D_5 1), x52, x52, (D_6 0), (D_6 1), x56, x26, x58, x56, x60, x26, x62, undef, x3, x0, x1, x2, x3, (.int .i64 0), (.int .i64 0), x71, x17, x4, x74, x75, (D_8 5), (D_8 6), x26, x79, x16, x81, x81, (D_10 0), (D_10 1), (D_10 2), (D_10 3), (D_10 4), (D_10 5), x89, x17, x4, x92, x93, x4, x17, x96, x97, x98, (D_11 0)] ++ [(D_11 1), (D_11 2), (D_11 3), (D_11 4), (D_11 5), (D_11 6), (D_11 7), x16, x16, (D_12 0), (D_12 1), (D_12 2), (D_12 3), (D_12 4), x114, x4, x17, x117, x118, x119, (D_8 49), (D_8 50), (D_8 51), (D_8 52), (D_8 53), (D_8 54), (D_8 55), x14, x128, (D_8 58), (D_8 59), (D_8 60), (D_8 61), (D_8 62), (D_8 63), (D_8 64), (D_8 65), (D_8 66), undef]).toArray, []⟩) (by kernel_rfl) ?_
                                              refine lwp_list ?_
                                              refine ls_move (x := x15) (by kernel_rfl) (by kernel_rfl) ?_
                                              refine ls_p (d := some 130) (by kernel_rfl) (by kernel_rfl) (p_add (by kernel_rfl) (by kernel_rfl) H) (fun x130 H => ?_)
                                              refine ls_assign (x := x130) (by kernel_rfl) (by kernel_rfl) ?_
                                              refine ls_nil ?_
                                              exact ⟨(fun i => ([(D_8 49), (D_8 50), (D_8 51), (D_8 52), (D_8 53), (D_8 54), (D_8 55), x14, x128, x15, x130]).getD i undef), x13, x128, x130, h_10, by kernel_rfl, HA_18, H⟩
                                          · rintro _ w_19 ⟨D_13, x13_2, x14_2, x15_2, h_11, rfl, HA_19, H⟩
                                            unfold betonylaw20_PatienceTells_j5 at H
                                            refine then_normal ?_
                                            refine fr_eq (b := ⟨([x0, x1, x2, x3, x4, undef, undef, undef, undef, undef, (D_8 0), x26, x56, x13_2, x14_2, x15_2, x16, x17, x4, x19, x20, undef, x0, x1, x2, x3, x26, x0, x28, x28, (D 0), (D 1), x32, x32, (D_1 0), (D_1 1), x36, x36, (D_2 0), (D_2 1), x40, x40, (D_3 0), (D_3 1), x44, x44, (D_4 0), (D_4 1), x48, x48] ++ [(D_5 0), (D_5 1), x52, x52, (D_6 0), (D_6 1), x56, x26, x58, x56, x60, x26, x62, undef, x3, x0, x1, x2, x3, (.int .i64 0), (.int .i64 0), x71, x17, x4, x74, x75, (D_8 5), (D_8 6), x26, x79, x16, x81, x81, (D_10 0), (D_10 1), (D_10 2), (D_10 3), (D_10 4), (D_10 5), x89, x17, x4, x92, x93, x4, x17, x96, x97, x98, (D_11 0)] ++ [(D_11 1), (D_11 2), (D_11 3), (D_11 4), (D_11 5), (D_11 6), (D_11 7), x16, x16, (D_12 0), (D_12 1), (D_12 2), (D_12 3), (D_12 4), x114, x4, x17, x117, x118, x119, (D_13 0), (D_13 1), (D_13 2), (D_13 3), (D_13 4), (D_13 5), (D_13 6), (D_13 7), (D_13 8), (D_13 9), (D_13 10), (D_8 60), (D_8 61), (D_8 62), (D_8 63), (D_8 64), (D_8 65), (D_8 66), undef]).toArray, []⟩) (by kernel_rfl) ?_
                                            refine lwp_list ?_
                                            refine ls_move (x := x0) (by kernel_rfl) (by kernel_rfl) ?_
                                            refine ls_move (x := x1) (by kernel_rfl) (by kernel_rfl) ?_
                                            refine ls_move (x := x2) (by kernel_rfl) (by kernel_rfl) ?_
                                            refine ls_move (x := x13_2) (by kernel_rfl) (by kernel_rfl) ?_
                                            refine ls_move (x := x14_2) (by kernel_rfl) (by kernel_rfl) ?_
                                            refine ls_move (x := x15_2) (by kernel_rfl) (by kernel_rfl) ?_
                                            refine ls_fr (b := ⟨([x0, x1, x2, x3, x4, undef, undef, undef, undef, undef, (D_8 0), x26, x56, x13_2, x14_2, x15_2, x16, x17, x4, x19, x20, undef, x0, x1, x2, x3, x26, x0, x28, x28, (D 0), (D 1), x32, x32, (D_1 0), (D_1 1), x36, x36, (D_2 0), (D_2 1), x40, x40, (D_3 0), (D_3 1), x44, x44, (D_4 0), (D_4 1), x48, x48] ++ [(D_5 0), (D_5 1), x52, x52, (D_6 0), (D_6 1), x56, x26, x58, x56, x60, x26, x62, undef, x3, x0, x1, x2, x3, (.int .i64 0), (.int .i64 0), x71, x17, x4, x74, x75, (D_8 5), (D_8 6), x26, x79, x16, x81, x81, (D_10 0), (D_10 1), (D_10 2), (D_10 3), (D_10 4), (D_10 5), x89, x17, x4, x92, x93, x4, x17, x96, x97, x98, (D_11 0)] ++ [(D_11 1), (D_11 2), (D_11 3), (D_11 4), (D_11 5), (D_11 6), (D_11 7), x16, x16, (D_12 0), (D_12 1), (D_12 2), (D_12 3), (D_12 4), x114, x4, x17, x117, x118, x119, (D_13 0), (D_13 1), (D_13 2), (D_13 3), (D_13 4), (D_13 5), (D_13 6), (D_13 7), (D_13 8), (D_13 9), (D_13 10), x0, x1, x2, x13_2, x14_2, x15_2, (D_8 66), undef]).toArray, []⟩) (by kernel_rfl) ?_
                                            refine ls_d (d := some 137) (by kernel_rfl) (by kernel_rfl) HA_19 (d_call (by kernel_rfl) (by kernel_rfl) H) (fun x137 h_12 w_20 H HA_20 => ?_)
                                            refine ls_assign (x := x137) (by kernel_rfl) (by kernel_rfl) ?_
                                            refine ls_nil ?_
                                            refine block_normal ?_
                                            exact ⟨(fun i => ([(D_8 0), x26, x79, x16, x81, x81, (D_10 0), (D_10 1), (D_10 2), (D_10 3), (D_10 4), (D_10 5), x89, x17, x4, x92, x93, x4, x17, x96, x97, x98, (D_11 0), (D_11 1), (D_11 2), (D_11 3), (D_11 4), (D_11 5), (D_11 6), (D_11 7), x16, x16, (D_12 0), (D_12 1), (D_12 2), (D_12 3), (D_12 4), x114, x4, x17, x117, x118, x119, (D_13 0), (D_13 1), (D_13 2), (D_13 3), (D_13 4), (D_13 5), (D_13 6)] ++ [(D_13 7), (D_13 8), (D_13 9), (D_13 10), x0, x1, x2, x13_2, x14_2, x15_2, x137]).getD i undef), x13_2, x14_2, x15_2, x137, h_12, by kernel_rfl, HA_20, H⟩
                            · rintro _ w_14 ⟨D_9, x13_1, x14_1, x15_1, x16_1, h_7, rfl, HA_14, H⟩
                              unfold betonylaw20_PatienceTells_j3 at H
                              refine then_normal ?_
                              refine fr_eq (b := ⟨([x0, x1, x2, x3, x4, undef, undef, undef, undef, undef, (D_9 0), x26, x56, x13_1, x14_1, x15_1, x16_1, x17, x4, x19, x20, undef, x0, x1, x2, x3, x26, x0, x28, x28, (D 0), (D 1), x32, x32, (D_1 0), (D_1 1), x36, x36, (D_2 0), (D_2 1), x40, x40, (D_3 0), (D_3 1), x44, x44, (D_4 0), (D_4 1), x48, x48] ++ [(D_5 0), (D_5 1), x52, x52, (D_6 0), (D_6 1), x56, x26, x58, x56, x60, x26, x62, undef, x3, x0, x1, x2, x3, (.int .i64 0), (.int .i64 0), x71, x17, x4, x74, x75, (D_8 5), (D_8 6), (D_9 1), (D_9 2), (D_9 3), (D_9 4), (D_9 5), (D_9 6), (D_9 7), (D_9 8), (D_9 9), (D_9 10), (D_9 11), (D_9 12), (D_9 13), (D_9 14), (D_9 15), (D_9 16), (D_9 17), (D_9 18), (D_9 19), (D_9 20), (D_9 21), (D_9 22)] ++ [(D_9 23), (D_9 24), (D_9 25), (D_9 26), (D_9 27), (D_9 28), (D_9 29), (D_9 30), (D_9 31), (D_9 32), (D_9 33), (D_9 34), (D_9 35), (D_9 36), (D_9 37), (D_9 38), (D_9 39), (D_9 40), (D_9 41), (D_9 42), (D_9 43), (D_9 44), (D_9 45), (D_9 46), (D_9 47), (D_9 48), (D_9 49), (D_9 50), (D_9 51), (D_9 52), (D_9 53), (D_9 54), (D_9 55), (D_9 56), (D_9 57), (D_9 58), (D_9 59), (D_9 60), undef]).toArray, []⟩) (by kernel_rfl) ?_
                              refine lwp_list ?_
                              refine ls_move (x := x17) (by kernel_rfl) (by kernel_rfl) ?_
                              refine ls_p (d := some 77) (by kernel_rfl) (by kernel_rfl) (p_add (by kernel_rfl) (by kernel_rfl) H) (fun x77 H => ?_)
                              refine ls_assign (x := x77) (by kernel_rfl) (by kernel_rfl) ?_
                              refine ls_nil ?_
                              exact ⟨⟨(fun i => ([(D_9 0), x17, x4, x74, x75, x17, x77, (D_9 1), (D_9 2), (D_9 3), (D_9 4), (D_9 5), (D_9 6), (D_9 7), (D_9 8), (D_9 9), (D_9 10), (D_9 11), (D_9 12), (D_9 13), (D_9 14), (D_9 15), (D_9 16), (D_9 17), (D_9 18), (D_9 19), (D_9 20), (D_9 21), (D_9 22), (D_9 23), (D_9 24), (D_9 25), (D_9 26), (D_9 27), (D_9 28), (D_9 29), (D_9 30), (D_9 31), (D_9 32), (D_9 33), (D_9 34), (D_9 35), (D_9 36), (D_9 37), (D_9 38), (D_9 39), (D_9 40), (D_9 41), (D_9 42), (D_9 43)] ++ [(D_9 44), (D_9 45), (D_9 46), (D_9 47), (D_9 48), (D_9 49), (D_9 50), (D_9 51), (D_9 52), (D_9 53), (D_9 54), (D_9 55), (D_9 56), (D_9 57), (D_9 58), (D_9 59), (D_9 60)]).getD i undef), x13_1, x14_1, x15_1, x16_1, x77, h_7, by kernel_rfl, HA_14, H.1⟩, loop_lt HA_14.heap HA_13.heap (by kernel_rfl) (by kernel_rfl) H.2⟩
                          · refine wp_exit ?_
                            refine then_exit ?_
                            refine then_exit ?_
                            refine block_exit ?_
                            exact ⟨(fun i => ([(D_8 0), x13, x14, x15, x16, x17, x17, x4, x74, x75, (D_8 5), (D_8 6), (D_8 7), (D_8 8), (D_8 9), (D_8 10), (D_8 11), (D_8 12), (D_8 13), (D_8 14), (D_8 15), (D_8 16), (D_8 17), (D_8 18), (D_8 19), (D_8 20), (D_8 21), (D_8 22), (D_8 23), (D_8 24), (D_8 25), (D_8 26), (D_8 27), (D_8 28), (D_8 29), (D_8 30), (D_8 31), (D_8 32), (D_8 33), (D_8 34), (D_8 35), (D_8 36), (D_8 37), (D_8 38), (D_8 39), (D_8 40), (D_8 41), (D_8 42), (D_8 43), (D_8 44)] ++ [(D_8 45), (D_8 46), (D_8 47), (D_8 48), (D_8 49), (D_8 50), (D_8 51), (D_8 52), (D_8 53), (D_8 54), (D_8 55), (D_8 56), (D_8 57), (D_8 58), (D_8 59), (D_8 60), (D_8 61), (D_8 62), (D_8 63), (D_8 64), (D_8 65), (D_8 66)]).getD i undef), h_6, by kernel_rfl, HA_13, H⟩
                      · rintro _ w_11 ⟨D_7, h_4, rfl, HA_11, H⟩
                        unfold betonylaw20_PatienceTells_j1 at H
                        refine then_normal ?_
                        refine fr_eq (b := ⟨([x0, x1, x2, x3, x4, undef, undef, undef, undef, undef, (D_7 0), x26, x56, (D_7 1), (D_7 2), (D_7 3), (D_7 4), (D_7 5), x4, x19, x20, undef, x0, x1, x2, x3, x26, x0, x28, x28, (D 0), (D 1), x32, x32, (D_1 0), (D_1 1), x36, x36, (D_2 0), (D_2 1), x40, x40, (D_3 0), (D_3 1), x44, x44, (D_4 0), (D_4 1), x48, x48] ++ [(D_5 0), (D_5 1), x52, x52, (D_6 0), (D_6 1), x56, x26, x58, x56, x60, x26, x62, undef, x3, x0, x1, x2, x3, (.int .i64 0), (.int .i64 0), x71, (D_7 6), (D_7 7), (D_7 8), (D_7 9), (D_7 10), (D_7 11), (D_7 12), (D_7 13), (D_7 14), (D_7 15), (D_7 16), (D_7 17), (D_7 18), (D_7 19), (D_7 20), (D_7 21), (D_7 22), (D_7 23), (D_7 24), (D_7 25), (D_7 26), (D_7 27), (D_7 28), (D_7 29), (D_7 30), (D_7 31), (D_7 32), (D_7 33)] ++ [(D_7 34), (D_7 35), (D_7 36), (D_7 37), (D_7 38), (D_7 39), (D_7 40), (D_7 41), (D_7 42), (D_7 43), (D_7 44), (D_7 45), (D_7 46), (D_7 47), (D_7 48), (D_7 49), (D_7 50), (D_7 51), (D_7 52), (D_7 53), (D_7 54), (D_7 55), (D_7 56), (D_7 57), (D_7 58), (D_7 59), (D_7 60), (D_7 61), (D_7 62), (D_7 63), (D_7 64), (D_7 65), (D_7 66), (D_7 67), (D_7 68), (D_7 69), (D_7 70), (D_7 71), undef]).toArray, []⟩) (by kernel_rfl) ?_
                        refine wp_seq ?_
                        refine lwp_list ?_
                        refine ls_d (d := some 138) (by kernel_rfl) (by kernel_rfl) HA_11 (d_call (by kernel_rfl) (by kernel_rfl) H) (fun x138 h_5 w_12 H HA_12 => ?_)
                        refine ls_assign (x := x138) (by kernel_rfl) (by kernel_rfl) ?_
                        refine ls_nil ?_
                        refine then_normal ?_
                        refine fr_eq (b := ⟨([x0, x1, x2, x3, x4, undef, undef, undef, undef, undef, x138, x26, x56, (D_7 1), (D_7 2), (D_7 3), (D_7 4), (D_7 5), x4, x19, x20, undef, x0, x1, x2, x3, x26, x0, x28, x28, (D 0), (D 1), x32, x32, (D_1 0), (D_1 1), x36, x36, (D_2 0), (D_2 1), x40, x40, (D_3 0), (D_3 1), x44, x44, (D_4 0), (D_4 1), x48, x48] ++ [(D_5 0), (D_5 1), x52, x52, (D_6 0), (D_6 1), x56, x26, x58, x56, x60, x26, x62, undef, x3, x0, x1, x2, x3, (.int .i64 0), (.int .i64 0), x71, (D_7 6), (D_7 7), (D_7 8), (D_7 9), (D_7 10), (D_7 11), (D_7 12), (D_7 13), (D_7 14), (D_7 15), (D_7 16), (D_7 17), (D_7 18), (D_7 19), (D_7 20), (D_7 21), (D_7 22), (D_7 23), (D_7 24), (D_7 25), (D_7 26), (D_7 27), (D_7 28), (D_7 29), (D_7 30), (D_7 31), (D_7 32), (D_7 33)] ++ [(D_7 34), (D_7 35), (D_7 36), (D_7 37), (D_7 38), (D_7 39), (D_7 40), (D_7 41), (D_7 42), (D_7 43), (D_7 44), (D_7 45), (D_7 46), (D_7 47), (D_7 48), (D_7 49), (D_7 50), (D_7 51), (D_7 52), (D_7 53), (D_7 54), (D_7 55), (D_7 56), (D_7 57), (D_7 58), (D_7 59), (D_7 60), (D_7 61), (D_7 62), (D_7 63), (D_7 64), (D_7 65), (D_7 66), (D_7 67), (D_7 68), (D_7 69), (D_7 70), (D_7 71), x138]).toArray, []⟩) (by kernel_rfl) ?_
                        refine wp_ret ?_
                        exact end1 (Try.results3) (by kernel_rfl) (by kernel_rfl) HA_12 H _ (.inr rfl)

end Go.Proofs.Ytecoejjpdogklaa
