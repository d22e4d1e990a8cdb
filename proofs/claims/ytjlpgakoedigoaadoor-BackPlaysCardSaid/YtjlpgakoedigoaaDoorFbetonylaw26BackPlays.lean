/- The shallow reading of one function, and that the function does it. Written by a program. -/
import Derived.Test.YtjlpgakoedigoaaDoorFnC
set_option linter.unusedVariables false
namespace Go.Proofs.YtjlpgakoedigoaaDoor
open Go Go.HW

def betonylaw26_BackPlays_l3 (R : Value → Heap → Prop) (next : Value → Value → Value → Heap → Prop) (x19 x6_1 x7_1 x8 : Value) (next1 : Value → Heap → Prop) (x9 : Value) (h_10 : Heap) : Prop :=
  sLen x6_1 fun x104 =>
  sLt x9 x104 fun x105 =>
  sIf x105 (∃ C : Heap → Prop, C h_10 ∧ (back_Back_Row_c x19 x9 h_10 fun x110 h_11 => C h_11 ∧ (
  sIxS x6_1 x9 1 fun x113 =>
  sLdC C x113 fun x114 =>
  betonyref06_Same_c x110 x114 h_11 fun x115 h_12 => 
  sNot x115 fun x116 =>
  sIf x116 (R (.bool false) h_12) (sAdd .i64 x9 (.int .i64 1) fun x107 =>
  next1 x107 h_12)))) (sAdd .i64 x8 (.int .i64 1) fun x33 =>
  next x6_1 x7_1 x33 h_10)
def betonylaw26_BackPlays_j2 (R : Value → Heap → Prop) (next : Value → Value → Value → Heap → Prop) (x19 x8 x6_1 x7_1 : Value) (h_5 : Heap) : Prop :=
  back_Back_Len_c x19 h_5 fun x75 h_6 => 
  sLen x6_1 fun x77 =>
  sNe x75 x77 fun x78 =>
  sOrH x78 h_6 (fun k_2 =>
  back_Back_Lost_c x19 h_6 fun x81 h_15 => 
  sLen x6_1 fun x84 =>
  sSub .i64 x7_1 x84 fun x85 =>
  sNe x81 x85 fun x86 =>
  k_2 x86 h_15) fun x87 h_7 =>
  sOrH x87 h_7 (fun k_1 =>
  back_Back_Row_c x19 (.int .i64 (-1)) h_7 fun x90 h_14 => 
  sLen x90 fun x91 =>
  sNe x91 (.int .i64 0) fun x92 =>
  k_1 x92 h_14) fun x93 h_8 =>
  sOrH x93 h_8 (fun k =>
  sLen x6_1 fun x97 =>
  back_Back_Row_c x19 x97 h_8 fun x98 h_13 => 
  sLen x98 fun x99 =>
  sNe x99 (.int .i64 0) fun x100 =>
  k x100 h_13) fun x101 h_9 =>
  sIf x101 (R (.bool false) h_9) (sLoop (S := Value) (fun nxt s h => betonylaw26_BackPlays_l3 R next x19 x6_1 x7_1 x8 (fun x9' h => nxt x9' h) s h) (.int .i64 0) h_9)
def betonylaw26_BackPlays_l1 (R : Value → Heap → Prop) (x0 x1 x19 : Value) (next : Value → Value → Value → Heap → Prop) (x6 x7 x8 : Value) (h_3 : Heap) : Prop :=
  sLen x1 fun x30 =>
  sLt x8 x30 fun x31 =>
  sIf x31 (sIxS x1 x8 1 fun x36 =>
  sLd h_3 x36 fun x37 =>
  sLen x37 fun x38 =>
  sGt x38 (.int .i64 40) fun x39 =>
  sIf x39 (betonylaw26_awake_c  h_3 fun x40 h_4 => 
  R x40 h_4) (sIxS x1 x8 1 fun x43 =>
  sLd h_3 x43 fun x44 =>
  sLen x44 fun x45 =>
  sGt x45 (.int .i64 0) fun x46 =>
  sAnd x46 (fun k_3 =>
  sIxS x1 x8 1 fun x50 =>
  sLd h_3 x50 fun x51 =>
  sIxS x51 (.int .i64 0) 4 fun x52 =>
  sOff x52 0 fun x53 =>
  sLd h_3 x53 fun x54 =>
  sEq x54 (.int .i32 (-2)) fun x55 =>
  k_3 x55) fun x56 =>
  sIf x56 (back_Back_Clear_c x19 h_3 fun x58 h_16 => 
  betonylaw26_BackPlays_j2 R next x19 x8 (.slice none 0 0) x7 h_16) (sIxS x1 x8 1 fun x62 =>
  sLd h_3 x62 fun x63 =>
  back_Back_Push_c x19 x63 h_3 fun x64 h_17 => 
  sIxS x1 x8 1 fun x69 =>
  sLd h_17 x69 fun x70 =>
  betonyref26_Push_c x6 x0 x70 h_17 fun x71 h_18 => 
  sAdd .i64 x7 (.int .i64 1) fun x73 =>
  betonylaw26_BackPlays_j2 R next x19 x8 x71 x73 h_18))) (betonylaw26_awake_c  h_3 fun x117 h_19 => 
  R x117 h_19)
def betonylaw26_BackPlays_S (x0 x1 : Value) (h : Heap) (R : Value → Heap → Prop) : Prop :=
  sLen x1 fun x11 =>
  sGt x11 (.int .i64 60) fun x12 =>
  sOr x12 (fun k_4 =>
  sGt x0 (.int .i64 20) fun x15 =>
  k_4 x15) fun x16 =>
  sIf x16 (betonylaw26_awake_c  h fun x17 h => 
  R x17 h) (back_New_c x0 h fun x19 h_1 => 
  sNeqNil x19 fun x21 =>
  sGe x0 (.int .i64 0) fun x23 =>
  sNeqB x21 x23 fun x24 =>
  sIf x24 (R (.bool false) h_1) (sEqlNil x19 fun x26 =>
  sIf x26 (betonylaw26_awake_c  h_1 fun x27 h_2 => 
  R x27 h_2) (sLoop (S := Value × Value × Value) (fun nxt s h => betonylaw26_BackPlays_l1 R x0 x1 x19 (fun x6' x7' x8' h => nxt (x6', x7', x8') h) s.1 s.2.1 s.2.2 h) ((.slice none 0 0), (.int .i64 0), (.int .i64 0)) h_1)))
set_option maxHeartbeats 4000000 in
set_option maxRecDepth 100000 in
theorem betonylaw26_BackPlays_runs {x0 x1 : Value} {h : Heap} {R : Value → Heap → Prop} (H : betonylaw26_BackPlays_S x0 x1 h R) : betonylaw26_BackPlays_c x0 x1 h R := by
  unfold betonylaw26_BackPlays_S at H
  refine runs_of (b := ⟨([x0, x1, undef, undef, undef, undef, undef, undef, undef, undef, undef, undef, undef, undef, undef, undef, undef, undef, undef, undef, undef, undef, undef, undef, undef, undef, undef, undef, undef, undef, undef, undef, undef, undef, undef, undef, undef, undef, undef, undef, undef, undef, undef, undef, undef, undef, undef, undef, undef, undef] ++ [undef, undef, undef, undef, undef, undef, undef, undef, undef, undef, undef, undef, undef, undef, undef, undef, undef, undef, undef, undef, undef, undef, undef, undef, undef, undef, undef, undef, undef, undef, undef, undef, undef, undef, undef, undef, undef, undef, undef, undef, undef, undef, undef, undef, undef, undef, undef, undef, undef, undef] ++ [undef, undef, undef, undef, undef, undef, undef, undef, undef, undef, undef, undef, undef, undef, undef, undef, undef, undef]).toArray, []⟩) Tryd.call6 Tryd.func6 rfl (by kernel_rfl) (fun w0 HA => ?_)
  refine wp_seq ?_
  refine lwp_list ?_
  refine ls_assign (x := (.bool false)) (by kernel_rfl) (by kernel_rfl) ?_
  refine ls_nil ?_
  refine then_normal ?_
  refine fr_eq (b := ⟨([x0, x1, undef, undef, (.bool false), undef, undef, undef, undef, undef, undef, undef, undef, undef, undef, undef, undef, undef, undef, undef, undef, undef, undef, undef, undef, undef, undef, undef, undef, undef, undef, undef, undef, undef, undef, undef, undef, undef, undef, undef, undef, undef, undef, undef, undef, undef, undef, undef, undef, undef] ++ [undef, undef, undef, undef, undef, undef, undef, undef, undef, undef, undef, undef, undef, undef, undef, undef, undef, undef, undef, undef, undef, undef, undef, undef, undef, undef, undef, undef, undef, undef, undef, undef, undef, undef, undef, undef, undef, undef, undef, undef, undef, undef, undef, undef, undef, undef, undef, undef, undef, undef] ++ [undef, undef, undef, undef, undef, undef, undef, undef, undef, undef, undef, undef, undef, undef, undef, undef, undef, undef]).toArray, []⟩) (by kernel_rfl) ?_
  refine wp_seq ?_
  refine wp_seq ?_
  refine lwp_list ?_
  refine ls_move (x := x1) (by kernel_rfl) (by kernel_rfl) ?_
  refine ls_p (d := some 11) (by kernel_rfl) (by kernel_rfl) (p_len Tryd.underlying39 (by kernel_rfl) H) (fun x11 H => ?_)
  refine ls_p (d := some 12) (by kernel_rfl) (by kernel_rfl) (p_sGt (by kernel_rfl) (by kernel_rfl) H) (fun x12 H => ?_)
  refine ls_move (x := x12) (by kernel_rfl) (by kernel_rfl) ?_
  refine ls_or [(), (), ()] (fun K a w => ∃ (D : Nat → Value) (x16 : Value), a = ⟨([x0, x1, undef, undef, (.bool false), undef, undef, undef, undef, undef, x1, x11, x12, x12, (D 0), (D 1), x16, undef, undef, undef, undef, undef, undef, undef, undef, undef, undef, undef, undef, undef, undef, undef, undef, undef, undef, undef, undef, undef, undef, undef, undef, undef, undef, undef, undef, undef, undef, undef, undef, undef] ++ [undef, undef, undef, undef, undef, undef, undef, undef, undef, undef, undef, undef, undef, undef, undef, undef, undef, undef, undef, undef, undef, undef, undef, undef, undef, undef, undef, undef, undef, undef, undef, undef, undef, undef, undef, undef, undef, undef, undef, undef, undef, undef, undef, undef, undef, undef, undef, undef, undef, undef] ++ [undef, undef, undef, undef, undef, undef, undef, undef, undef, undef, undef, undef, undef, undef, undef, undef, undef, undef]).toArray, []⟩ ∧ At w0 w h ∧ K x16) H (fun hb_4 H => ?_) (fun hb_4 H => ?_) ?_
  · refine ls_move (x := x0) (by rw [hb_4]; kernel_rfl) (by kernel_rfl) ?_
    refine ls_p (d := some 15) (by kernel_rfl) (by rw [hb_4]; kernel_rfl) (p_sGt (by kernel_rfl) (by kernel_rfl) H) (fun x15 H => ?_)
    refine ls_fr (b := ⟨([x0, x1, undef, undef, (.bool false), undef, undef, undef, undef, undef, x1, x11, x12, x12, x0, x15, undef, undef, undef, undef, undef, undef, undef, undef, undef, undef, undef, undef, undef, undef, undef, undef, undef, undef, undef, undef, undef, undef, undef, undef, undef, undef, undef, undef, undef, undef, undef, undef, undef, undef] ++ [undef, undef, undef, undef, undef, undef, undef, undef, undef, undef, undef, undef, undef, undef, undef, undef, undef, undef, undef, undef, undef, undef, undef, undef, undef, undef, undef, undef, undef, undef, undef, undef, undef, undef, undef, undef, undef, undef, undef, undef, undef, undef, undef, undef, undef, undef, undef, undef, undef, undef] ++ [undef, undef, undef, undef, undef, undef, undef, undef, undef, undef, undef, undef, undef, undef, undef, undef, undef, undef]).toArray, []⟩) (by kernel_rfl) ?_
    refine ls_pick_f (y := x15) (by kernel_rfl) (by rw [hb_4]; kernel_rfl) (by kernel_rfl) ?_
    refine ls_nil ?_
    refine then_normal ?_
    exact ⟨(fun i => ([x0, x15]).getD i undef), x15, by kernel_rfl, HA, H⟩
  · refine ls_skip (d := some 14) (by kernel_rfl) (by rw [hb_4]; kernel_rfl) ?_
    refine ls_skip (d := some 15) (by kernel_rfl) (by rw [hb_4]; kernel_rfl) ?_
    refine ls_fr (b := ⟨([x0, x1, undef, undef, (.bool false), undef, undef, undef, undef, undef, x1, x11, x12, x12, undef, undef, undef, undef, undef, undef, undef, undef, undef, undef, undef, undef, undef, undef, undef, undef, undef, undef, undef, undef, undef, undef, undef, undef, undef, undef, undef, undef, undef, undef, undef, undef, undef, undef, undef, undef] ++ [undef, undef, undef, undef, undef, undef, undef, undef, undef, undef, undef, undef, undef, undef, undef, undef, undef, undef, undef, undef, undef, undef, undef, undef, undef, undef, undef, undef, undef, undef, undef, undef, undef, undef, undef, undef, undef, undef, undef, undef, undef, undef, undef, undef, undef, undef, undef, undef, undef, undef] ++ [undef, undef, undef, undef, undef, undef, undef, undef, undef, undef, undef, undef, undef, undef, undef, undef, undef, undef]).toArray, []⟩) (by kernel_rfl) ?_
    refine ls_pick_t (x := (.bool true)) (by kernel_rfl) (by rw [hb_4]; kernel_rfl) (by kernel_rfl) ?_
    refine ls_nil ?_
    refine then_normal ?_
    exact ⟨(fun i => ([undef, undef]).getD i undef), (.bool true), by kernel_rfl, HA, H⟩
  · rintro _ w ⟨D, x16, rfl, HA, H⟩
    refine ls_nil ?_
    refine then_normal ?_
    refine fr_eq (b := ⟨([x0, x1, undef, undef, (.bool false), undef, undef, undef, undef, undef, x1, x11, x12, x12, (D 0), (D 1), x16, undef, undef, undef, undef, undef, undef, undef, undef, undef, undef, undef, undef, undef, undef, undef, undef, undef, undef, undef, undef, undef, undef, undef, undef, undef, undef, undef, undef, undef, undef, undef, undef, undef] ++ [undef, undef, undef, undef, undef, undef, undef, undef, undef, undef, undef, undef, undef, undef, undef, undef, undef, undef, undef, undef, undef, undef, undef, undef, undef, undef, undef, undef, undef, undef, undef, undef, undef, undef, undef, undef, undef, undef, undef, undef, undef, undef, undef, undef, undef, undef, undef, undef, undef, undef] ++ [undef, undef, undef, undef, undef, undef, undef, undef, undef, undef, undef, undef, undef, undef, undef, undef, undef, undef]).toArray, []⟩) (by kernel_rfl) ?_
    refine wp_if rfl H (fun H => ?_) (fun H => ?_)
    · refine wp_seq ?_
      refine lwp_list ?_
      refine ls_d (d := some 17) (by kernel_rfl) (by kernel_rfl) HA (d_call (by kernel_rfl) (by kernel_rfl) H) (fun x17 h w_1 H HA_1 => ?_)
      refine ls_assign (x := x17) (by kernel_rfl) (by kernel_rfl) ?_
      refine ls_nil ?_
      refine then_normal ?_
      refine fr_eq (b := ⟨([x0, x1, undef, undef, x17, undef, undef, undef, undef, undef, x1, x11, x12, x12, (D 0), (D 1), x16, x17, undef, undef, undef, undef, undef, undef, undef, undef, undef, undef, undef, undef, undef, undef, undef, undef, undef, undef, undef, undef, undef, undef, undef, undef, undef, undef, undef, undef, undef, undef, undef, undef] ++ [undef, undef, undef, undef, undef, undef, undef, undef, undef, undef, undef, undef, undef, undef, undef, undef, undef, undef, undef, undef, undef, undef, undef, undef, undef, undef, undef, undef, undef, undef, undef, undef, undef, undef, undef, undef, undef, undef, undef, undef, undef, undef, undef, undef, undef, undef, undef, undef, undef, undef] ++ [undef, undef, undef, undef, undef, undef, undef, undef, undef, undef, undef, undef, undef, undef, undef, undef, undef, undef]).toArray, []⟩) (by kernel_rfl) ?_
      refine wp_ret ?_
      refine then_ret ?_
      exact end1 (Tryd.results6) (by kernel_rfl) (by kernel_rfl) HA_1 H _ (.inr rfl)
    · refine wp_skip ?_
      refine then_normal ?_
      refine fr_eq (b := ⟨([x0, x1, undef, undef, (.bool false), undef, undef, undef, undef, undef, x1, x11, x12, x12, (D 0), (D 1), x16, undef, undef, undef, undef, undef, undef, undef, undef, undef, undef, undef, undef, undef, undef, undef, undef, undef, undef, undef, undef, undef, undef, undef, undef, undef, undef, undef, undef, undef, undef, undef, undef, undef] ++ [undef, undef, undef, undef, undef, undef, undef, undef, undef, undef, undef, undef, undef, undef, undef, undef, undef, undef, undef, undef, undef, undef, undef, undef, undef, undef, undef, undef, undef, undef, undef, undef, undef, undef, undef, undef, undef, undef, undef, undef, undef, undef, undef, undef, undef, undef, undef, undef, undef, undef] ++ [undef, undef, undef, undef, undef, undef, undef, undef, undef, undef, undef, undef, undef, undef, undef, undef, undef, undef]).toArray, []⟩) (by kernel_rfl) ?_
      refine wp_seq ?_
      refine lwp_list ?_
      refine ls_move (x := x0) (by kernel_rfl) (by kernel_rfl) ?_
      refine ls_d (d := some 19) (by kernel_rfl) (by kernel_rfl) HA (d_call (by kernel_rfl) (by kernel_rfl) H) (fun x19 h_1 w_2 H HA_2 => ?_)
      refine ls_assign (x := x19) (by kernel_rfl) (by kernel_rfl) ?_
      refine ls_nil ?_
      refine then_normal ?_
      refine fr_eq (b := ⟨([x0, x1, undef, undef, (.bool false), x19, undef, undef, undef, undef, x1, x11, x12, x12, (D 0), (D 1), x16, undef, x0, x19, undef, undef, undef, undef, undef, undef, undef, undef, undef, undef, undef, undef, undef, undef, undef, undef, undef, undef, undef, undef, undef, undef, undef, undef, undef, undef, undef, undef, undef, undef] ++ [undef, undef, undef, undef, undef, undef, undef, undef, undef, undef, undef, undef, undef, undef, undef, undef, undef, undef, undef, undef, undef, undef, undef, undef, undef, undef, undef, undef, undef, undef, undef, undef, undef, undef, undef, undef, undef, undef, undef, undef, undef, undef, undef, undef, undef, undef, undef, undef, undef, undef] ++ [undef, undef, undef, undef, undef, undef, undef, undef, undef, undef, undef, undef, undef, undef, undef, undef, undef, undef]).toArray, []⟩) (by kernel_rfl) ?_
      refine wp_seq ?_
      refine wp_seq ?_
      refine lwp_list ?_
      refine ls_move (x := x19) (by kernel_rfl) (by kernel_rfl) ?_
      refine ls_p (d := some 21) (by kernel_rfl) (by kernel_rfl) (p_neqNil Tryd.underlying26 (by kernel_rfl) (by kernel_rfl) H) (fun x21 H => ?_)
      refine ls_move (x := x0) (by kernel_rfl) (by kernel_rfl) ?_
      refine ls_p (d := some 23) (by kernel_rfl) (by kernel_rfl) (p_sGe (by kernel_rfl) (by kernel_rfl) H) (fun x23 H => ?_)
      refine ls_p (d := some 24) (by kernel_rfl) (by kernel_rfl) (p_neqB Tryd.underlying4 (by kernel_rfl) (by kernel_rfl) H) (fun x24 H => ?_)
      refine ls_nil ?_
      refine then_normal ?_
      refine fr_eq (b := ⟨([x0, x1, undef, undef, (.bool false), x19, undef, undef, undef, undef, x1, x11, x12, x12, (D 0), (D 1), x16, undef, x0, x19, x19, x21, x0, x23, x24, undef, undef, undef, undef, undef, undef, undef, undef, undef, undef, undef, undef, undef, undef, undef, undef, undef, undef, undef, undef, undef, undef, undef, undef, undef] ++ [undef, undef, undef, undef, undef, undef, undef, undef, undef, undef, undef, undef, undef, undef, undef, undef, undef, undef, undef, undef, undef, undef, undef, undef, undef, undef, undef, undef, undef, undef, undef, undef, undef, undef, undef, undef, undef, undef, undef, undef, undef, undef, undef, undef, undef, undef, undef, undef, undef, undef] ++ [undef, undef, undef, undef, undef, undef, undef, undef, undef, undef, undef, undef, undef, undef, undef, undef, undef, undef]).toArray, []⟩) (by kernel_rfl) ?_
      refine wp_if rfl H (fun H => ?_) (fun H => ?_)
      · refine wp_seq ?_
        refine lwp_list ?_
        refine ls_assign (x := (.bool false)) (by kernel_rfl) (by kernel_rfl) ?_
        refine ls_nil ?_
        refine then_normal ?_
        refine fr_eq (b := ⟨([x0, x1, undef, undef, (.bool false), x19, undef, undef, undef, undef, x1, x11, x12, x12, (D 0), (D 1), x16, undef, x0, x19, x19, x21, x0, x23, x24, undef, undef, undef, undef, undef, undef, undef, undef, undef, undef, undef, undef, undef, undef, undef, undef, undef, undef, undef, undef, undef, undef, undef, undef, undef] ++ [undef, undef, undef, undef, undef, undef, undef, undef, undef, undef, undef, undef, undef, undef, undef, undef, undef, undef, undef, undef, undef, undef, undef, undef, undef, undef, undef, undef, undef, undef, undef, undef, undef, undef, undef, undef, undef, undef, undef, undef, undef, undef, undef, undef, undef, undef, undef, undef, undef, undef] ++ [undef, undef, undef, undef, undef, undef, undef, undef, undef, undef, undef, undef, undef, undef, undef, undef, undef, undef]).toArray, []⟩) (by kernel_rfl) ?_
        refine wp_ret ?_
        refine then_ret ?_
        exact end1 (Tryd.results6) (by kernel_rfl) (by kernel_rfl) HA_2 H _ (.inr rfl)
      · refine wp_skip ?_
        refine then_normal ?_
        refine fr_eq (b := ⟨([x0, x1, undef, undef, (.bool false), x19, undef, undef, undef, undef, x1, x11, x12, x12, (D 0), (D 1), x16, undef, x0, x19, x19, x21, x0, x23, x24, undef, undef, undef, undef, undef, undef, undef, undef, undef, undef, undef, undef, undef, undef, undef, undef, undef, undef, undef, undef, undef, undef, undef, undef, undef] ++ [undef, undef, undef, undef, undef, undef, undef, undef, undef, undef, undef, undef, undef, undef, undef, undef, undef, undef, undef, undef, undef, undef, undef, undef, undef, undef, undef, undef, undef, undef, undef, undef, undef, undef, undef, undef, undef, undef, undef, undef, undef, undef, undef, undef, undef, undef, undef, undef, undef, undef] ++ [undef, undef, undef, undef, undef, undef, undef, undef, undef, undef, undef, undef, undef, undef, undef, undef, undef, undef]).toArray, []⟩) (by kernel_rfl) ?_
        refine wp_seq ?_
        refine wp_seq ?_
        refine lwp_list ?_
        refine ls_move (x := x19) (by kernel_rfl) (by kernel_rfl) ?_
        refine ls_p (d := some 26) (by kernel_rfl) (by kernel_rfl) (p_eqlNil Tryd.underlying26 (by kernel_rfl) (by kernel_rfl) H) (fun x26 H => ?_)
        refine ls_nil ?_
        refine then_normal ?_
        refine fr_eq (b := ⟨([x0, x1, undef, undef, (.bool false), x19, undef, undef, undef, undef, x1, x11, x12, x12, (D 0), (D 1), x16, undef, x0, x19, x19, x21, x0, x23, x24, x19, x26, undef, undef, undef, undef, undef, undef, undef, undef, undef, undef, undef, undef, undef, undef, undef, undef, undef, undef, undef, undef, undef, undef, undef] ++ [undef, undef, undef, undef, undef, undef, undef, undef, undef, undef, undef, undef, undef, undef, undef, undef, undef, undef, undef, undef, undef, undef, undef, undef, undef, undef, undef, undef, undef, undef, undef, undef, undef, undef, undef, undef, undef, undef, undef, undef, undef, undef, undef, undef, undef, undef, undef, undef, undef, undef] ++ [undef, undef, undef, undef, undef, undef, undef, undef, undef, undef, undef, undef, undef, undef, undef, undef, undef, undef]).toArray, []⟩) (by kernel_rfl) ?_
        refine wp_if rfl H (fun H => ?_) (fun H => ?_)
        · refine wp_seq ?_
          refine lwp_list ?_
          refine ls_d (d := some 27) (by kernel_rfl) (by kernel_rfl) HA_2 (d_call (by kernel_rfl) (by kernel_rfl) H) (fun x27 h_2 w_3 H HA_3 => ?_)
          refine ls_assign (x := x27) (by kernel_rfl) (by kernel_rfl) ?_
          refine ls_nil ?_
          refine then_normal ?_
          refine fr_eq (b := ⟨([x0, x1, undef, undef, x27, x19, undef, undef, undef, undef, x1, x11, x12, x12, (D 0), (D 1), x16, undef, x0, x19, x19, x21, x0, x23, x24, x19, x26, x27, undef, undef, undef, undef, undef, undef, undef, undef, undef, undef, undef, undef, undef, undef, undef, undef, undef, undef, undef, undef, undef, undef] ++ [undef, undef, undef, undef, undef, undef, undef, undef, undef, undef, undef, undef, undef, undef, undef, undef, undef, undef, undef, undef, undef, undef, undef, undef, undef, undef, undef, undef, undef, undef, undef, undef, undef, undef, undef, undef, undef, undef, undef, undef, undef, undef, undef, undef, undef, undef, undef, undef, undef, undef] ++ [undef, undef, undef, undef, undef, undef, undef, undef, undef, undef, undef, undef, undef, undef, undef, undef, undef, undef]).toArray, []⟩) (by kernel_rfl) ?_
          refine wp_ret ?_
          refine then_ret ?_
          exact end1 (Tryd.results6) (by kernel_rfl) (by kernel_rfl) HA_3 H _ (.inr rfl)
        · refine wp_skip ?_
          refine then_normal ?_
          refine fr_eq (b := ⟨([x0, x1, undef, undef, (.bool false), x19, undef, undef, undef, undef, x1, x11, x12, x12, (D 0), (D 1), x16, undef, x0, x19, x19, x21, x0, x23, x24, x19, x26, undef, undef, undef, undef, undef, undef, undef, undef, undef, undef, undef, undef, undef, undef, undef, undef, undef, undef, undef, undef, undef, undef, undef] ++ [undef, undef, undef, undef, undef, undef, undef, undef, undef, undef, undef, undef, undef, undef, undef, undef, undef, undef, undef, undef, undef, undef, undef, undef, undef, undef, undef, undef, undef, undef, undef, undef, undef, undef, undef, undef, undef, undef, undef, undef, undef, undef, undef, undef, undef, undef, undef, undef, undef, undef] ++ [undef, undef, undef, undef, undef, undef, undef, undef, undef, undef, undef, undef, undef, undef, undef, undef, undef, undef]).toArray, []⟩) (by kernel_rfl) ?_
          refine wp_seq ?_
          refine lwp_list ?_
          refine ls_assign (x := (.slice none 0 0)) (by kernel_rfl) (by kernel_rfl) ?_
          refine ls_nil ?_
          refine then_normal ?_
          refine fr_eq (b := ⟨([x0, x1, undef, undef, (.bool false), x19, (.slice none 0 0), undef, undef, undef, x1, x11, x12, x12, (D 0), (D 1), x16, undef, x0, x19, x19, x21, x0, x23, x24, x19, x26, undef, undef, undef, undef, undef, undef, undef, undef, undef, undef, undef, undef, undef, undef, undef, undef, undef, undef, undef, undef, undef, undef, undef] ++ [undef, undef, undef, undef, undef, undef, undef, undef, undef, undef, undef, undef, undef, undef, undef, undef, undef, undef, undef, undef, undef, undef, undef, undef, undef, undef, undef, undef, undef, undef, undef, undef, undef, undef, undef, undef, undef, undef, undef, undef, undef, undef, undef, undef, undef, undef, undef, undef, undef, undef] ++ [undef, undef, undef, undef, undef, undef, undef, undef, undef, undef, undef, undef, undef, undef, undef, undef, undef, undef]).toArray, []⟩) (by kernel_rfl) ?_
          refine wp_seq ?_
          refine lwp_list ?_
          refine ls_assign (x := (.int .i64 0)) (by kernel_rfl) (by kernel_rfl) ?_
          refine ls_nil ?_
          refine then_normal ?_
          refine fr_eq (b := ⟨([x0, x1, undef, undef, (.bool false), x19, (.slice none 0 0), (.int .i64 0), undef, undef, x1, x11, x12, x12, (D 0), (D 1), x16, undef, x0, x19, x19, x21, x0, x23, x24, x19, x26, undef, undef, undef, undef, undef, undef, undef, undef, undef, undef, undef, undef, undef, undef, undef, undef, undef, undef, undef, undef, undef, undef, undef] ++ [undef, undef, undef, undef, undef, undef, undef, undef, undef, undef, undef, undef, undef, undef, undef, undef, undef, undef, undef, undef, undef, undef, undef, undef, undef, undef, undef, undef, undef, undef, undef, undef, undef, undef, undef, undef, undef, undef, undef, undef, undef, undef, undef, undef, undef, undef, undef, undef, undef, undef] ++ [undef, undef, undef, undef, undef, undef, undef, undef, undef, undef, undef, undef, undef, undef, undef, undef, undef, undef]).toArray, []⟩) (by kernel_rfl) ?_
          refine wp_seq ?_
          refine wp_seq ?_
          refine lwp_list ?_
          refine ls_assign (x := (.int .i64 0)) (by kernel_rfl) (by kernel_rfl) ?_
          refine ls_nil ?_
          refine then_normal ?_
          refine fr_eq (b := ⟨([x0, x1, undef, undef, (.bool false), x19, (.slice none 0 0), (.int .i64 0), (.int .i64 0), undef, x1, x11, x12, x12, (D 0), (D 1), x16, undef, x0, x19, x19, x21, x0, x23, x24, x19, x26, undef, undef, undef, undef, undef, undef, undef, undef, undef, undef, undef, undef, undef, undef, undef, undef, undef, undef, undef, undef, undef, undef, undef] ++ [undef, undef, undef, undef, undef, undef, undef, undef, undef, undef, undef, undef, undef, undef, undef, undef, undef, undef, undef, undef, undef, undef, undef, undef, undef, undef, undef, undef, undef, undef, undef, undef, undef, undef, undef, undef, undef, undef, undef, undef, undef, undef, undef, undef, undef, undef, undef, undef, undef, undef] ++ [undef, undef, undef, undef, undef, undef, undef, undef, undef, undef, undef, undef, undef, undef, undef, undef, undef, undef]).toArray, []⟩) (by kernel_rfl) ?_
          refine wp_block ?_
          obtain ⟨I, m, H0, HB⟩ := H
          refine wp_loop (fun a w => ∃ (D_1 : Nat → Value) (x6 x7 x8 : Value) (h_3 : Heap), a = ⟨([x0, x1, undef, undef, (D_1 0), x19, x6, x7, x8, (D_1 1), x1, x11, x12, x12, (D 0), (D 1), x16, undef, x0, x19, x19, x21, x0, x23, x24, x19, x26, undef, (D_1 2), (D_1 3), (D_1 4), (D_1 5), (D_1 6), (D_1 7), (D_1 8), (D_1 9), (D_1 10), (D_1 11), (D_1 12), (D_1 13), (D_1 14), (D_1 15), (D_1 16), (D_1 17), (D_1 18), (D_1 19), (D_1 20), (D_1 21), (D_1 22), (D_1 23)] ++ [(D_1 24), (D_1 25), (D_1 26), (D_1 27), (D_1 28), (D_1 29), (D_1 30), (D_1 31), (D_1 32), (D_1 33), (D_1 34), (D_1 35), (D_1 36), (D_1 37), (D_1 38), (D_1 39), (D_1 40), (D_1 41), (D_1 42), (D_1 43), (D_1 44), (D_1 45), (D_1 46), (D_1 47), (D_1 48), (D_1 49), (D_1 50), (D_1 51), (D_1 52), (D_1 53), (D_1 54), (D_1 55), (D_1 56), (D_1 57), (D_1 58), (D_1 59), (D_1 60), (D_1 61), (D_1 62), (D_1 63), (D_1 64), (D_1 65), (D_1 66), (D_1 67), (D_1 68), (D_1 69), (D_1 70), (D_1 71), (D_1 72), (D_1 73)] ++ [(D_1 74), (D_1 75), (D_1 76), (D_1 77), (D_1 78), (D_1 79), (D_1 80), (D_1 81), (D_1 82), (D_1 83), (D_1 84), (D_1 85), (D_1 86), (D_1 87), (D_1 88), (D_1 89), (D_1 90), undef]).toArray, []⟩ ∧ At w0 w h_3 ∧ I (x6, x7, x8) h_3) (fun a w => m ((a.tmps.getD 6 undef), (a.tmps.getD 7 undef), (a.tmps.getD 8 undef)) w.heap) ?_ ?_
          · exact ⟨(fun i => ([(.bool false), undef, undef, undef, undef, undef, undef, undef, undef, undef, undef, undef, undef, undef, undef, undef, undef, undef, undef, undef, undef, undef, undef, undef, undef, undef, undef, undef, undef, undef, undef, undef, undef, undef, undef, undef, undef, undef, undef, undef, undef, undef, undef, undef, undef, undef, undef, undef, undef, undef] ++ [undef, undef, undef, undef, undef, undef, undef, undef, undef, undef, undef, undef, undef, undef, undef, undef, undef, undef, undef, undef, undef, undef, undef, undef, undef, undef, undef, undef, undef, undef, undef, undef, undef, undef, undef, undef, undef, undef, undef, undef, undef]).getD i undef), (.slice none 0 0), (.int .i64 0), (.int .i64 0), h_1, by kernel_rfl, HA_2, H0⟩
          · rintro _ w_4 ⟨D_1, x6, x7, x8, h_3, rfl, HA_4, HI⟩
            have H : betonylaw26_BackPlays_l1 R x0 x1 x19 (fun x6' x7' x8' h' => I (x6', x7', x8') h' ∧ m (x6', x7', x8') h' < m (x6, x7, x8) h_3) x6 x7 x8 h_3 := HB (x6, x7, x8) h_3 HI
            clear HB H0 HI
            unfold betonylaw26_BackPlays_l1 at H
            refine wp_seq ?_
            refine wp_seq ?_
            refine lwp_list ?_
            refine ls_move (x := x8) (by kernel_rfl) (by kernel_rfl) ?_
            refine ls_move (x := x1) (by kernel_rfl) (by kernel_rfl) ?_
            refine ls_p (d := some 30) (by kernel_rfl) (by kernel_rfl) (p_len Tryd.underlying39 (by kernel_rfl) H) (fun x30 H => ?_)
            refine ls_p (d := some 31) (by kernel_rfl) (by kernel_rfl) (p_sLt (by kernel_rfl) (by kernel_rfl) H) (fun x31 H => ?_)
            refine ls_nil ?_
            refine then_normal ?_
            refine fr_eq (b := ⟨([x0, x1, undef, undef, (D_1 0), x19, x6, x7, x8, (D_1 1), x1, x11, x12, x12, (D 0), (D 1), x16, undef, x0, x19, x19, x21, x0, x23, x24, x19, x26, undef, x8, x1, x30, x31, (D_1 6), (D_1 7), (D_1 8), (D_1 9), (D_1 10), (D_1 11), (D_1 12), (D_1 13), (D_1 14), (D_1 15), (D_1 16), (D_1 17), (D_1 18), (D_1 19), (D_1 20), (D_1 21), (D_1 22), (D_1 23)] ++ [(D_1 24), (D_1 25), (D_1 26), (D_1 27), (D_1 28), (D_1 29), (D_1 30), (D_1 31), (D_1 32), (D_1 33), (D_1 34), (D_1 35), (D_1 36), (D_1 37), (D_1 38), (D_1 39), (D_1 40), (D_1 41), (D_1 42), (D_1 43), (D_1 44), (D_1 45), (D_1 46), (D_1 47), (D_1 48), (D_1 49), (D_1 50), (D_1 51), (D_1 52), (D_1 53), (D_1 54), (D_1 55), (D_1 56), (D_1 57), (D_1 58), (D_1 59), (D_1 60), (D_1 61), (D_1 62), (D_1 63), (D_1 64), (D_1 65), (D_1 66), (D_1 67), (D_1 68), (D_1 69), (D_1 70), (D_1 71), (D_1 72), (D_1 73)] ++ [(D_1 74), (D_1 75), (D_1 76), (D_1 77), (D_1 78), (D_1 79), (D_1 80), (D_1 81), (D_1 82), (D_1 83), (D_1 84), (D_1 85), (D_1 86), (D_1 87), (D_1 88), (D_1 89), (D_1 90), undef]).toArray, []⟩) (by kernel_rfl) ?_
            refine wp_if rfl H (fun H => ?_) (fun H => ?_)
            · refine wp_skip ?_
              refine then_normal ?_
              refine fr_eq (b := ⟨([x0, x1, undef, undef, (D_1 0), x19, x6, x7, x8, (D_1 1), x1, x11, x12, x12, (D 0), (D 1), x16, undef, x0, x19, x19, x21, x0, x23, x24, x19, x26, undef, x8, x1, x30, x31, (D_1 6), (D_1 7), (D_1 8), (D_1 9), (D_1 10), (D_1 11), (D_1 12), (D_1 13), (D_1 14), (D_1 15), (D_1 16), (D_1 17), (D_1 18), (D_1 19), (D_1 20), (D_1 21), (D_1 22), (D_1 23)] ++ [(D_1 24), (D_1 25), (D_1 26), (D_1 27), (D_1 28), (D_1 29), (D_1 30), (D_1 31), (D_1 32), (D_1 33), (D_1 34), (D_1 35), (D_1 36), (D_1 37), (D_1 38), (D_1 39), (D_1 40), (D_1 41), (D_1 42), (D_1 43), (D_1 44), (D_1 45), (D_1 46), (D_1 47), (D_1 48), (D_1 49), (D_1 50), (D_1 51), (D_1 52), (D_1 53), (D_1 54), (D_1 55), (D_1 56), (D_1 57), (D_1 58), (D_1 59), (D_1 60), (D_1 61), (D_1 62), (D_1 63), (D_1 64), (D_1 65), (D_1 66), (D_1 67), (D_1 68), (D_1 69), (D_1 70), (D_1 71), (D_1 72), (D_1 73)] ++ [(D_1 74), (D_1 75), (D_1 76), (D_1 77), (D_1 78), (D_1 79), (D_1 80), (D_1 81), (D_1 82), (D_1 83), (D_1 84), (D_1 85), (D_1 86), (D_1 87), (D_1 88), (D_1 89), (D_1 90), undef]).toArray, []⟩) (by kernel_rfl) ?_
              refine wp_seq ?_
              refine wp_block ?_
              refine wp_seq ?_
              refine wp_seq ?_
              refine lwp_list ?_
              refine ls_move (x := x1) (by kernel_rfl) (by kernel_rfl) ?_
              refine ls_move (x := x8) (by kernel_rfl) (by kernel_rfl) ?_
              refine ls_p (d := some 36) (by kernel_rfl) (by kernel_rfl) (p_ixs Tryd.underlying39 Tryd.sizeOf22 (by kernel_rfl) (by kernel_rfl) H) (fun x36 H => ?_)
              refine ls_y (d := some 37) (by kernel_rfl) (by kernel_rfl) HA_4 (y_ld Tryd.isAgg22 (by kernel_rfl) H) (fun x37 H => ?_)
              refine ls_p (d := some 38) (by kernel_rfl) (by kernel_rfl) (p_len Tryd.underlying22 (by kernel_rfl) H) (fun x38 H => ?_)
              refine ls_p (d := some 39) (by kernel_rfl) (by kernel_rfl) (p_sGt (by kernel_rfl) (by kernel_rfl) H) (fun x39 H => ?_)
              refine ls_nil ?_
              refine then_normal ?_
              refine fr_eq (b := ⟨([x0, x1, undef, undef, (D_1 0), x19, x6, x7, x8, (D_1 1), x1, x11, x12, x12, (D 0), (D 1), x16, undef, x0, x19, x19, x21, x0, x23, x24, x19, x26, undef, x8, x1, x30, x31, (D_1 6), (D_1 7), x1, x8, x36, x37, x38, x39, (D_1 14), (D_1 15), (D_1 16), (D_1 17), (D_1 18), (D_1 19), (D_1 20), (D_1 21), (D_1 22), (D_1 23)] ++ [(D_1 24), (D_1 25), (D_1 26), (D_1 27), (D_1 28), (D_1 29), (D_1 30), (D_1 31), (D_1 32), (D_1 33), (D_1 34), (D_1 35), (D_1 36), (D_1 37), (D_1 38), (D_1 39), (D_1 40), (D_1 41), (D_1 42), (D_1 43), (D_1 44), (D_1 45), (D_1 46), (D_1 47), (D_1 48), (D_1 49), (D_1 50), (D_1 51), (D_1 52), (D_1 53), (D_1 54), (D_1 55), (D_1 56), (D_1 57), (D_1 58), (D_1 59), (D_1 60), (D_1 61), (D_1 62), (D_1 63), (D_1 64), (D_1 65), (D_1 66), (D_1 67), (D_1 68), (D_1 69), (D_1 70), (D_1 71), (D_1 72), (D_1 73)] ++ [(D_1 74), (D_1 75), (D_1 76), (D_1 77), (D_1 78), (D_1 79), (D_1 80), (D_1 81), (D_1 82), (D_1 83), (D_1 84), (D_1 85), (D_1 86), (D_1 87), (D_1 88), (D_1 89), (D_1 90), undef]).toArray, []⟩) (by kernel_rfl) ?_
              refine wp_if rfl H (fun H => ?_) (fun H => ?_)
              · refine wp_seq ?_
                refine lwp_list ?_
                refine ls_d (d := some 40) (by kernel_rfl) (by kernel_rfl) HA_4 (d_call (by kernel_rfl) (by kernel_rfl) H) (fun x40 h_4 w_5 H HA_5 => ?_)
                refine ls_assign (x := x40) (by kernel_rfl) (by kernel_rfl) ?_
                refine ls_nil ?_
                refine then_normal ?_
                refine fr_eq (b := ⟨([x0, x1, undef, undef, x40, x19, x6, x7, x8, (D_1 1), x1, x11, x12, x12, (D 0), (D 1), x16, undef, x0, x19, x19, x21, x0, x23, x24, x19, x26, undef, x8, x1, x30, x31, (D_1 6), (D_1 7), x1, x8, x36, x37, x38, x39, x40, (D_1 15), (D_1 16), (D_1 17), (D_1 18), (D_1 19), (D_1 20), (D_1 21), (D_1 22), (D_1 23)] ++ [(D_1 24), (D_1 25), (D_1 26), (D_1 27), (D_1 28), (D_1 29), (D_1 30), (D_1 31), (D_1 32), (D_1 33), (D_1 34), (D_1 35), (D_1 36), (D_1 37), (D_1 38), (D_1 39), (D_1 40), (D_1 41), (D_1 42), (D_1 43), (D_1 44), (D_1 45), (D_1 46), (D_1 47), (D_1 48), (D_1 49), (D_1 50), (D_1 51), (D_1 52), (D_1 53), (D_1 54), (D_1 55), (D_1 56), (D_1 57), (D_1 58), (D_1 59), (D_1 60), (D_1 61), (D_1 62), (D_1 63), (D_1 64), (D_1 65), (D_1 66), (D_1 67), (D_1 68), (D_1 69), (D_1 70), (D_1 71), (D_1 72), (D_1 73)] ++ [(D_1 74), (D_1 75), (D_1 76), (D_1 77), (D_1 78), (D_1 79), (D_1 80), (D_1 81), (D_1 82), (D_1 83), (D_1 84), (D_1 85), (D_1 86), (D_1 87), (D_1 88), (D_1 89), (D_1 90), undef]).toArray, []⟩) (by kernel_rfl) ?_
                refine wp_ret ?_
                refine then_ret ?_
                refine block_ret ?_
                refine then_ret ?_
                refine then_ret ?_
                refine block_ret ?_
                refine then_ret ?_
                exact end1 (Tryd.results6) (by kernel_rfl) (by kernel_rfl) HA_5 H _ (.inr rfl)
              · refine wp_skip ?_
                refine then_normal ?_
                refine fr_eq (b := ⟨([x0, x1, undef, undef, (D_1 0), x19, x6, x7, x8, (D_1 1), x1, x11, x12, x12, (D 0), (D 1), x16, undef, x0, x19, x19, x21, x0, x23, x24, x19, x26, undef, x8, x1, x30, x31, (D_1 6), (D_1 7), x1, x8, x36, x37, x38, x39, (D_1 14), (D_1 15), (D_1 16), (D_1 17), (D_1 18), (D_1 19), (D_1 20), (D_1 21), (D_1 22), (D_1 23)] ++ [(D_1 24), (D_1 25), (D_1 26), (D_1 27), (D_1 28), (D_1 29), (D_1 30), (D_1 31), (D_1 32), (D_1 33), (D_1 34), (D_1 35), (D_1 36), (D_1 37), (D_1 38), (D_1 39), (D_1 40), (D_1 41), (D_1 42), (D_1 43), (D_1 44), (D_1 45), (D_1 46), (D_1 47), (D_1 48), (D_1 49), (D_1 50), (D_1 51), (D_1 52), (D_1 53), (D_1 54), (D_1 55), (D_1 56), (D_1 57), (D_1 58), (D_1 59), (D_1 60), (D_1 61), (D_1 62), (D_1 63), (D_1 64), (D_1 65), (D_1 66), (D_1 67), (D_1 68), (D_1 69), (D_1 70), (D_1 71), (D_1 72), (D_1 73)] ++ [(D_1 74), (D_1 75), (D_1 76), (D_1 77), (D_1 78), (D_1 79), (D_1 80), (D_1 81), (D_1 82), (D_1 83), (D_1 84), (D_1 85), (D_1 86), (D_1 87), (D_1 88), (D_1 89), (D_1 90), undef]).toArray, []⟩) (by kernel_rfl) ?_
                refine wp_seq ?_
                refine wp_seq ?_
                refine lwp_list ?_
                refine ls_move (x := x1) (by kernel_rfl) (by kernel_rfl) ?_
                refine ls_move (x := x8) (by kernel_rfl) (by kernel_rfl) ?_
                refine ls_p (d := some 43) (by kernel_rfl) (by kernel_rfl) (p_ixs Tryd.underlying39 Tryd.sizeOf22 (by kernel_rfl) (by kernel_rfl) H) (fun x43 H => ?_)
                refine ls_y (d := some 44) (by kernel_rfl) (by kernel_rfl) HA_4 (y_ld Tryd.isAgg22 (by kernel_rfl) H) (fun x44 H => ?_)
                refine ls_p (d := some 45) (by kernel_rfl) (by kernel_rfl) (p_len Tryd.underlying22 (by kernel_rfl) H) (fun x45 H => ?_)
                refine ls_p (d := some 46) (by kernel_rfl) (by kernel_rfl) (p_sGt (by kernel_rfl) (by kernel_rfl) H) (fun x46 H => ?_)
                refine ls_fr (b := ⟨([x0, x1, undef, undef, (D_1 0), x19, x6, x7, x8, (D_1 1), x1, x11, x12, x12, (D 0), (D 1), x16, undef, x0, x19, x19, x21, x0, x23, x24, x19, x26, undef, x8, x1, x30, x31, (D_1 6), (D_1 7), x1, x8, x36, x37, x38, x39, (D_1 14), x1, x8, x43, x44, x45, x46, (D_1 21), (D_1 22), (D_1 23)] ++ [(D_1 24), (D_1 25), (D_1 26), (D_1 27), (D_1 28), (D_1 29), (D_1 30), (D_1 31), (D_1 32), (D_1 33), (D_1 34), (D_1 35), (D_1 36), (D_1 37), (D_1 38), (D_1 39), (D_1 40), (D_1 41), (D_1 42), (D_1 43), (D_1 44), (D_1 45), (D_1 46), (D_1 47), (D_1 48), (D_1 49), (D_1 50), (D_1 51), (D_1 52), (D_1 53), (D_1 54), (D_1 55), (D_1 56), (D_1 57), (D_1 58), (D_1 59), (D_1 60), (D_1 61), (D_1 62), (D_1 63), (D_1 64), (D_1 65), (D_1 66), (D_1 67), (D_1 68), (D_1 69), (D_1 70), (D_1 71), (D_1 72), (D_1 73)] ++ [(D_1 74), (D_1 75), (D_1 76), (D_1 77), (D_1 78), (D_1 79), (D_1 80), (D_1 81), (D_1 82), (D_1 83), (D_1 84), (D_1 85), (D_1 86), (D_1 87), (D_1 88), (D_1 89), (D_1 90), undef]).toArray, []⟩) (by kernel_rfl) ?_
                refine ls_move (x := x46) (by kernel_rfl) (by kernel_rfl) ?_
                refine ls_and [(), (), (), (), (), (), (), (), ()] (fun K a w => ∃ (D_2 : Nat → Value) (x56 : Value), a = ⟨([x0, x1, undef, undef, (D_1 0), x19, x6, x7, x8, (D_1 1), x1, x11, x12, x12, (D 0), (D 1), x16, undef, x0, x19, x19, x21, x0, x23, x24, x19, x26, undef, x8, x1, x30, x31, (D_1 6), (D_1 7), x1, x8, x36, x37, x38, x39, (D_1 14), x1, x8, x43, x44, x45, x46, x46, (D_2 0), (D_2 1)] ++ [(D_2 2), (D_2 3), (D_2 4), (D_2 5), (D_2 6), (D_2 7), x56, (D_1 31), (D_1 32), (D_1 33), (D_1 34), (D_1 35), (D_1 36), (D_1 37), (D_1 38), (D_1 39), (D_1 40), (D_1 41), (D_1 42), (D_1 43), (D_1 44), (D_1 45), (D_1 46), (D_1 47), (D_1 48), (D_1 49), (D_1 50), (D_1 51), (D_1 52), (D_1 53), (D_1 54), (D_1 55), (D_1 56), (D_1 57), (D_1 58), (D_1 59), (D_1 60), (D_1 61), (D_1 62), (D_1 63), (D_1 64), (D_1 65), (D_1 66), (D_1 67), (D_1 68), (D_1 69), (D_1 70), (D_1 71), (D_1 72), (D_1 73)] ++ [(D_1 74), (D_1 75), (D_1 76), (D_1 77), (D_1 78), (D_1 79), (D_1 80), (D_1 81), (D_1 82), (D_1 83), (D_1 84), (D_1 85), (D_1 86), (D_1 87), (D_1 88), (D_1 89), (D_1 90), undef]).toArray, []⟩ ∧ At w0 w h_3 ∧ K x56) H (fun hb_3 H => ?_) (fun hb_3 H => ?_) ?_
                · refine ls_move (x := x1) (by rw [hb_3]; kernel_rfl) (by kernel_rfl) ?_
                  refine ls_move (x := x8) (by rw [hb_3]; kernel_rfl) (by kernel_rfl) ?_
                  refine ls_p (d := some 50) (by kernel_rfl) (by rw [hb_3]; kernel_rfl) (p_ixs Tryd.underlying39 Tryd.sizeOf22 (by kernel_rfl) (by kernel_rfl) H) (fun x50 H => ?_)
                  refine ls_y (d := some 51) (by kernel_rfl) (by rw [hb_3]; kernel_rfl) HA_4 (y_ld Tryd.isAgg22 (by kernel_rfl) H) (fun x51 H => ?_)
                  refine ls_p (d := some 52) (by kernel_rfl) (by rw [hb_3]; kernel_rfl) (p_ixs Tryd.underlying22 Tryd.sizeOf32 (by kernel_rfl) (by kernel_rfl) H) (fun x52 H => ?_)
                  refine ls_fr (b := ⟨([x0, x1, undef, undef, (D_1 0), x19, x6, x7, x8, (D_1 1), x1, x11, x12, x12, (D 0), (D 1), x16, undef, x0, x19, x19, x21, x0, x23, x24, x19, x26, undef, x8, x1, x30, x31, (D_1 6), (D_1 7), x1, x8, x36, x37, x38, x39, (D_1 14), x1, x8, x43, x44, x45, x46, x46, x1, x8] ++ [x50, x51, x52, (D_1 27), (D_1 28), (D_1 29), (D_1 30), (D_1 31), (D_1 32), (D_1 33), (D_1 34), (D_1 35), (D_1 36), (D_1 37), (D_1 38), (D_1 39), (D_1 40), (D_1 41), (D_1 42), (D_1 43), (D_1 44), (D_1 45), (D_1 46), (D_1 47), (D_1 48), (D_1 49), (D_1 50), (D_1 51), (D_1 52), (D_1 53), (D_1 54), (D_1 55), (D_1 56), (D_1 57), (D_1 58), (D_1 59), (D_1 60), (D_1 61), (D_1 62), (D_1 63), (D_1 64), (D_1 65), (D_1 66), (D_1 67), (D_1 68), (D_1 69), (D_1 70), (D_1 71), (D_1 72), (D_1 73)] ++ [(D_1 74), (D_1 75), (D_1 76), (D_1 77), (D_1 78), (D_1 79), (D_1 80), (D_1 81), (D_1 82), (D_1 83), (D_1 84), (D_1 85), (D_1 86), (D_1 87), (D_1 88), (D_1 89), (D_1 90), undef]).toArray, []⟩) (by kernel_rfl) ?_
                  refine ls_p (d := some 53) (by kernel_rfl) (by rw [hb_3]; kernel_rfl) (p_off Tryd.underlying32 rfl (fun w => ⟨_, Tryd.sizeOf21 w⟩) rfl (by kernel_rfl) H) (fun x53 H => ?_)
                  refine ls_y (d := some 54) (by kernel_rfl) (by rw [hb_3]; kernel_rfl) HA_4 (y_ld Tryd.isAgg21 (by kernel_rfl) H) (fun x54 H => ?_)
                  refine ls_p (d := some 55) (by kernel_rfl) (by rw [hb_3]; kernel_rfl) (p_sEq (by kernel_rfl) (by kernel_rfl) H) (fun x55 H => ?_)
                  refine ls_pick_t (x := x55) (by kernel_rfl) (by rw [hb_3]; kernel_rfl) (by kernel_rfl) ?_
                  refine ls_nil ?_
                  refine then_normal ?_
                  exact ⟨(fun i => ([x1, x8, x50, x51, x52, x53, x54, x55]).getD i undef), x55, by kernel_rfl, HA_4, H⟩
                · refine ls_skip (d := some 48) (by kernel_rfl) (by rw [hb_3]; kernel_rfl) ?_
                  refine ls_skip (d := some 49) (by kernel_rfl) (by rw [hb_3]; kernel_rfl) ?_
                  refine ls_skip (d := some 50) (by kernel_rfl) (by rw [hb_3]; kernel_rfl) ?_
                  refine ls_skip (d := some 51) (by kernel_rfl) (by rw [hb_3]; kernel_rfl) ?_
                  refine ls_skip (d := some 52) (by kernel_rfl) (by rw [hb_3]; kernel_rfl) ?_
                  refine ls_fr (b := ⟨([x0, x1, undef, undef, (D_1 0), x19, x6, x7, x8, (D_1 1), x1, x11, x12, x12, (D 0), (D 1), x16, undef, x0, x19, x19, x21, x0, x23, x24, x19, x26, undef, x8, x1, x30, x31, (D_1 6), (D_1 7), x1, x8, x36, x37, x38, x39, (D_1 14), x1, x8, x43, x44, x45, x46, x46, undef, undef] ++ [undef, undef, undef, (D_1 27), (D_1 28), (D_1 29), (D_1 30), (D_1 31), (D_1 32), (D_1 33), (D_1 34), (D_1 35), (D_1 36), (D_1 37), (D_1 38), (D_1 39), (D_1 40), (D_1 41), (D_1 42), (D_1 43), (D_1 44), (D_1 45), (D_1 46), (D_1 47), (D_1 48), (D_1 49), (D_1 50), (D_1 51), (D_1 52), (D_1 53), (D_1 54), (D_1 55), (D_1 56), (D_1 57), (D_1 58), (D_1 59), (D_1 60), (D_1 61), (D_1 62), (D_1 63), (D_1 64), (D_1 65), (D_1 66), (D_1 67), (D_1 68), (D_1 69), (D_1 70), (D_1 71), (D_1 72), (D_1 73)] ++ [(D_1 74), (D_1 75), (D_1 76), (D_1 77), (D_1 78), (D_1 79), (D_1 80), (D_1 81), (D_1 82), (D_1 83), (D_1 84), (D_1 85), (D_1 86), (D_1 87), (D_1 88), (D_1 89), (D_1 90), undef]).toArray, []⟩) (by kernel_rfl) ?_
                  refine ls_skip (d := some 53) (by kernel_rfl) (by rw [hb_3]; kernel_rfl) ?_
                  refine ls_skip (d := some 54) (by kernel_rfl) (by rw [hb_3]; kernel_rfl) ?_
                  refine ls_skip (d := some 55) (by kernel_rfl) (by rw [hb_3]; kernel_rfl) ?_
                  refine ls_pick_f (y := (.bool false)) (by kernel_rfl) (by rw [hb_3]; kernel_rfl) (by kernel_rfl) ?_
                  refine ls_nil ?_
                  refine then_normal ?_
                  exact ⟨(fun i => ([undef, undef, undef, undef, undef, undef, undef, undef]).getD i undef), (.bool false), by kernel_rfl, HA_4, H⟩
                · rintro _ w_6 ⟨D_2, x56, rfl, HA_6, H⟩
                  refine ls_nil ?_
                  refine then_normal ?_
                  refine fr_eq (b := ⟨([x0, x1, undef, undef, (D_1 0), x19, x6, x7, x8, (D_1 1), x1, x11, x12, x12, (D 0), (D 1), x16, undef, x0, x19, x19, x21, x0, x23, x24, x19, x26, undef, x8, x1, x30, x31, (D_1 6), (D_1 7), x1, x8, x36, x37, x38, x39, (D_1 14), x1, x8, x43, x44, x45, x46, x46, (D_2 0), (D_2 1)] ++ [(D_2 2), (D_2 3), (D_2 4), (D_2 5), (D_2 6), (D_2 7), x56, (D_1 31), (D_1 32), (D_1 33), (D_1 34), (D_1 35), (D_1 36), (D_1 37), (D_1 38), (D_1 39), (D_1 40), (D_1 41), (D_1 42), (D_1 43), (D_1 44), (D_1 45), (D_1 46), (D_1 47), (D_1 48), (D_1 49), (D_1 50), (D_1 51), (D_1 52), (D_1 53), (D_1 54), (D_1 55), (D_1 56), (D_1 57), (D_1 58), (D_1 59), (D_1 60), (D_1 61), (D_1 62), (D_1 63), (D_1 64), (D_1 65), (D_1 66), (D_1 67), (D_1 68), (D_1 69), (D_1 70), (D_1 71), (D_1 72), (D_1 73)] ++ [(D_1 74), (D_1 75), (D_1 76), (D_1 77), (D_1 78), (D_1 79), (D_1 80), (D_1 81), (D_1 82), (D_1 83), (D_1 84), (D_1 85), (D_1 86), (D_1 87), (D_1 88), (D_1 89), (D_1 90), undef]).toArray, []⟩) (by kernel_rfl) ?_
                  refine wp_join (fun a w => ∃ (D_3 : Nat → Value) (x6_1 x7_1 : Value) (h_5 : Heap), a = ⟨([x0, x1, undef, undef, (D_1 0), x19, x6_1, x7_1, x8, (D_1 1), x1, x11, x12, x12, (D 0), (D 1), x16, undef, x0, x19, x19, x21, x0, x23, x24, x19, x26, undef, x8, x1, x30, x31, (D_1 6), (D_1 7), x1, x8, x36, x37, x38, x39, (D_1 14), x1, x8, x43, x44, x45, x46, x46, (D_2 0), (D_2 1)] ++ [(D_2 2), (D_2 3), (D_2 4), (D_2 5), (D_2 6), (D_2 7), x56, (D_3 0), (D_3 1), (D_3 2), (D_3 3), (D_3 4), (D_3 5), (D_3 6), (D_3 7), (D_3 8), (D_3 9), (D_3 10), (D_3 11), (D_3 12), (D_3 13), (D_3 14), (D_3 15), (D_3 16), (D_1 48), (D_1 49), (D_1 50), (D_1 51), (D_1 52), (D_1 53), (D_1 54), (D_1 55), (D_1 56), (D_1 57), (D_1 58), (D_1 59), (D_1 60), (D_1 61), (D_1 62), (D_1 63), (D_1 64), (D_1 65), (D_1 66), (D_1 67), (D_1 68), (D_1 69), (D_1 70), (D_1 71), (D_1 72), (D_1 73)] ++ [(D_1 74), (D_1 75), (D_1 76), (D_1 77), (D_1 78), (D_1 79), (D_1 80), (D_1 81), (D_1 82), (D_1 83), (D_1 84), (D_1 85), (D_1 86), (D_1 87), (D_1 88), (D_1 89), (D_1 90), undef]).toArray, []⟩ ∧ At w0 w h_5 ∧ betonylaw26_BackPlays_j2 R (fun x6' x7' x8' h' => I (x6', x7', x8') h' ∧ m (x6', x7', x8') h' < m (x6, x7, x8) h_3) x19 x8 x6_1 x7_1 h_5) ?_ ?_
                  · refine wp_if rfl H (fun H => ?_) (fun H => ?_)
                    · refine wp_seq ?_
                      refine lwp_list ?_
                      refine ls_move (x := x19) (by kernel_rfl) (by kernel_rfl) ?_
                      refine ls_d (d := some 58) (by kernel_rfl) (by kernel_rfl) HA_6 (d_call (by kernel_rfl) (by kernel_rfl) H) (fun x58 h_16 w_19 H HA_19 => ?_)
                      refine ls_nil ?_
                      refine then_normal ?_
                      refine fr_eq (b := ⟨([x0, x1, undef, undef, (D_1 0), x19, x6, x7, x8, (D_1 1), x1, x11, x12, x12, (D 0), (D 1), x16, undef, x0, x19, x19, x21, x0, x23, x24, x19, x26, undef, x8, x1, x30, x31, (D_1 6), (D_1 7), x1, x8, x36, x37, x38, x39, (D_1 14), x1, x8, x43, x44, x45, x46, x46, (D_2 0), (D_2 1)] ++ [(D_2 2), (D_2 3), (D_2 4), (D_2 5), (D_2 6), (D_2 7), x56, x19, x58, (D_1 33), (D_1 34), (D_1 35), (D_1 36), (D_1 37), (D_1 38), (D_1 39), (D_1 40), (D_1 41), (D_1 42), (D_1 43), (D_1 44), (D_1 45), (D_1 46), (D_1 47), (D_1 48), (D_1 49), (D_1 50), (D_1 51), (D_1 52), (D_1 53), (D_1 54), (D_1 55), (D_1 56), (D_1 57), (D_1 58), (D_1 59), (D_1 60), (D_1 61), (D_1 62), (D_1 63), (D_1 64), (D_1 65), (D_1 66), (D_1 67), (D_1 68), (D_1 69), (D_1 70), (D_1 71), (D_1 72), (D_1 73)] ++ [(D_1 74), (D_1 75), (D_1 76), (D_1 77), (D_1 78), (D_1 79), (D_1 80), (D_1 81), (D_1 82), (D_1 83), (D_1 84), (D_1 85), (D_1 86), (D_1 87), (D_1 88), (D_1 89), (D_1 90), undef]).toArray, []⟩) (by kernel_rfl) ?_
                      refine lwp_list ?_
                      refine ls_assign (x := (.slice none 0 0)) (by kernel_rfl) (by kernel_rfl) ?_
                      refine ls_nil ?_
                      exact ⟨(fun i => ([x19, x58, (D_1 33), (D_1 34), (D_1 35), (D_1 36), (D_1 37), (D_1 38), (D_1 39), (D_1 40), (D_1 41), (D_1 42), (D_1 43), (D_1 44), (D_1 45), (D_1 46), (D_1 47)]).getD i undef), (.slice none 0 0), x7, h_16, by kernel_rfl, HA_19, H⟩
                    · refine wp_seq ?_
                      refine lwp_list ?_
                      refine ls_move (x := x19) (by kernel_rfl) (by kernel_rfl) ?_
                      refine ls_move (x := x1) (by kernel_rfl) (by kernel_rfl) ?_
                      refine ls_move (x := x8) (by kernel_rfl) (by kernel_rfl) ?_
                      refine ls_p (d := some 62) (by kernel_rfl) (by kernel_rfl) (p_ixs Tryd.underlying39 Tryd.sizeOf22 (by kernel_rfl) (by kernel_rfl) H) (fun x62 H => ?_)
                      refine ls_y (d := some 63) (by kernel_rfl) (by kernel_rfl) HA_6 (y_ld Tryd.isAgg22 (by kernel_rfl) H) (fun x63 H => ?_)
                      refine ls_d (d := some 64) (by kernel_rfl) (by kernel_rfl) HA_6 (d_call (by kernel_rfl) (by kernel_rfl) H) (fun x64 h_17 w_20 H HA_20 => ?_)
                      refine ls_nil ?_
                      refine then_normal ?_
                      refine fr_eq (b := ⟨([x0, x1, undef, undef, (D_1 0), x19, x6, x7, x8, (D_1 1), x1, x11, x12, x12, (D 0), (D 1), x16, undef, x0, x19, x19, x21, x0, x23, x24, x19, x26, undef, x8, x1, x30, x31, (D_1 6), (D_1 7), x1, x8, x36, x37, x38, x39, (D_1 14), x1, x8, x43, x44, x45, x46, x46, (D_2 0), (D_2 1)] ++ [(D_2 2), (D_2 3), (D_2 4), (D_2 5), (D_2 6), (D_2 7), x56, (D_1 31), (D_1 32), x19, x1, x8, x62, x63, x64, (D_1 39), (D_1 40), (D_1 41), (D_1 42), (D_1 43), (D_1 44), (D_1 45), (D_1 46), (D_1 47), (D_1 48), (D_1 49), (D_1 50), (D_1 51), (D_1 52), (D_1 53), (D_1 54), (D_1 55), (D_1 56), (D_1 57), (D_1 58), (D_1 59), (D_1 60), (D_1 61), (D_1 62), (D_1 63), (D_1 64), (D_1 65), (D_1 66), (D_1 67), (D_1 68), (D_1 69), (D_1 70), (D_1 71), (D_1 72), (D_1 73)] ++ [(D_1 74), (D_1 75), (D_1 76), (D_1 77), (D_1 78), (D_1 79), (D_1 80), (D_1 81), (D_1 82), (D_1 83), (D_1 84), (D_1 85), (D_1 86), (D_1 87), (D_1 88), (D_1 89), (D_1 90), undef]).toArray, []⟩) (by kernel_rfl) ?_
                      refine wp_seq ?_
                      refine lwp_list ?_
                      refine ls_move (x := x6) (by kernel_rfl) (by kernel_rfl) ?_
                      refine ls_move (x := x0) (by kernel_rfl) (by kernel_rfl) ?_
                      refine ls_move (x := x1) (by kernel_rfl) (by kernel_rfl) ?_
                      refine ls_move (x := x8) (by kernel_rfl) (by kernel_rfl) ?_
                      refine ls_p (d := some 69) (by kernel_rfl) (by kernel_rfl) (p_ixs Tryd.underlying39 Tryd.sizeOf22 (by kernel_rfl) (by kernel_rfl) H) (fun x69 H => ?_)
                      refine ls_y (d := some 70) (by kernel_rfl) (by kernel_rfl) HA_20 (y_ld Tryd.isAgg22 (by kernel_rfl) H) (fun x70 H => ?_)
                      refine ls_fr (b := ⟨([x0, x1, undef, undef, (D_1 0), x19, x6, x7, x8, (D_1 1), x1, x11, x12, x12, (D 0), (D 1), x16, undef, x0, x19, x19, x21, x0, x23, x24, x19, x26, undef, x8, x1, x30, x31, (D_1 6), (D_1 7), x1, x8, x36, x37, x38, x39, (D_1 14), x1, x8, x43, x44, x45, x46, x46, (D_2 0), (D_2 1)] ++ [(D_2 2), (D_2 3), (D_2 4), (D_2 5), (D_2 6), (D_2 7), x56, (D_1 31), (D_1 32), x19, x1, x8, x62, x63, x64, x6, x0, x1, x8, x69, x70, (D_1 45), (D_1 46), (D_1 47), (D_1 48), (D_1 49), (D_1 50), (D_1 51), (D_1 52), (D_1 53), (D_1 54), (D_1 55), (D_1 56), (D_1 57), (D_1 58), (D_1 59), (D_1 60), (D_1 61), (D_1 62), (D_1 63), (D_1 64), (D_1 65), (D_1 66), (D_1 67), (D_1 68), (D_1 69), (D_1 70), (D_1 71), (D_1 72), (D_1 73)] ++ [(D_1 74), (D_1 75), (D_1 76), (D_1 77), (D_1 78), (D_1 79), (D_1 80), (D_1 81), (D_1 82), (D_1 83), (D_1 84), (D_1 85), (D_1 86), (D_1 87), (D_1 88), (D_1 89), (D_1 90), undef]).toArray, []⟩) (by kernel_rfl) ?_
                      refine ls_d (d := some 71) (by kernel_rfl) (by kernel_rfl) HA_20 (d_call (by kernel_rfl) (by kernel_rfl) H) (fun x71 h_18 w_21 H HA_21 => ?_)
                      refine ls_assign (x := x71) (by kernel_rfl) (by kernel_rfl) ?_
                      refine ls_nil ?_
                      refine then_normal ?_
                      refine fr_eq (b := ⟨([x0, x1, undef, undef, (D_1 0), x19, x71, x7, x8, (D_1 1), x1, x11, x12, x12, (D 0), (D 1), x16, undef, x0, x19, x19, x21, x0, x23, x24, x19, x26, undef, x8, x1, x30, x31, (D_1 6), (D_1 7), x1, x8, x36, x37, x38, x39, (D_1 14), x1, x8, x43, x44, x45, x46, x46, (D_2 0), (D_2 1)] ++ [(D_2 2), (D_2 3), (D_2 4), (D_2 5), (D_2 6), (D_2 7), x56, (D_1 31), (D_1 32), x19, x1, x8, x62, x63, x64, x6, x0, x1, x8, x69, x70, x71, (D_1 46), (D_1 47), (D_1 48), (D_1 49), (D_1 50), (D_1 51), (D_1 52), (D_1 53), (D_1 54), (D_1 55), (D_1 56), (D_1 57), (D_1 58), (D_1 59), (D_1 60), (D_1 61), (D_1 62), (D_1 63), (D_1 64), (D_1 65), (D_1 66), (D_1 67), (D_1 68), (D_1 69), (D_1 70), (D_1 71), (D_1 72), (D_1 73)] ++ [(D_1 74), (D_1 75), (D_1 76), (D_1 77), (D_1 78), (D_1 79), (D_1 80), (D_1 81), (D_1 82), (D_1 83), (D_1 84), (D_1 85), (D_1 86), (D_1 87), (D_1 88), (D_1 89), (D_1 90), undef]).toArray, []⟩) (by kernel_rfl) ?_
                      refine lwp_list ?_
                      refine ls_move (x := x7) (by kernel_rfl) (by kernel_rfl) ?_
                      refine ls_p (d := some 73) (by kernel_rfl) (by kernel_rfl) (p_add (by kernel_rfl) (by kernel_rfl) H) (fun x73 H => ?_)
                      refine ls_assign (x := x73) (by kernel_rfl) (by kernel_rfl) ?_
                      refine ls_nil ?_
                      exact ⟨(fun i => ([(D_1 31), (D_1 32), x19, x1, x8, x62, x63, x64, x6, x0, x1, x8, x69, x70, x71, x7, x73]).getD i undef), x71, x73, h_18, by kernel_rfl, HA_21, H⟩
                  · rintro _ w_7 ⟨D_3, x6_1, x7_1, h_5, rfl, HA_7, H⟩
                    unfold betonylaw26_BackPlays_j2 at H
                    refine then_normal ?_
                    refine fr_eq (b := ⟨([x0, x1, undef, undef, (D_1 0), x19, x6_1, x7_1, x8, (D_1 1), x1, x11, x12, x12, (D 0), (D 1), x16, undef, x0, x19, x19, x21, x0, x23, x24, x19, x26, undef, x8, x1, x30, x31, (D_1 6), (D_1 7), x1, x8, x36, x37, x38, x39, (D_1 14), x1, x8, x43, x44, x45, x46, x46, (D_2 0), (D_2 1)] ++ [(D_2 2), (D_2 3), (D_2 4), (D_2 5), (D_2 6), (D_2 7), x56, (D_3 0), (D_3 1), (D_3 2), (D_3 3), (D_3 4), (D_3 5), (D_3 6), (D_3 7), (D_3 8), (D_3 9), (D_3 10), (D_3 11), (D_3 12), (D_3 13), (D_3 14), (D_3 15), (D_3 16), (D_1 48), (D_1 49), (D_1 50), (D_1 51), (D_1 52), (D_1 53), (D_1 54), (D_1 55), (D_1 56), (D_1 57), (D_1 58), (D_1 59), (D_1 60), (D_1 61), (D_1 62), (D_1 63), (D_1 64), (D_1 65), (D_1 66), (D_1 67), (D_1 68), (D_1 69), (D_1 70), (D_1 71), (D_1 72), (D_1 73)] ++ [(D_1 74), (D_1 75), (D_1 76), (D_1 77), (D_1 78), (D_1 79), (D_1 80), (D_1 81), (D_1 82), (D_1 83), (D_1 84), (D_1 85), (D_1 86), (D_1 87), (D_1 88), (D_1 89), (D_1 90), undef]).toArray, []⟩) (by kernel_rfl) ?_
                    refine wp_seq ?_
                    refine wp_seq ?_
                    refine lwp_list ?_
                    refine ls_move (x := x19) (by kernel_rfl) (by kernel_rfl) ?_
                    refine ls_d (d := some 75) (by kernel_rfl) (by kernel_rfl) HA_7 (d_call (by kernel_rfl) (by kernel_rfl) H) (fun x75 h_6 w_8 H HA_8 => ?_)
                    refine ls_move (x := x6_1) (by kernel_rfl) (by kernel_rfl) ?_
                    refine ls_p (d := some 77) (by kernel_rfl) (by kernel_rfl) (p_len Tryd.underlying39 (by kernel_rfl) H) (fun x77 H => ?_)
                    refine ls_p (d := some 78) (by kernel_rfl) (by kernel_rfl) (p_sNe (by kernel_rfl) (by kernel_rfl) H) (fun x78 H => ?_)
                    refine ls_move (x := x78) (by kernel_rfl) (by kernel_rfl) ?_
                    refine ls_fr (b := ⟨([x0, x1, undef, undef, (D_1 0), x19, x6_1, x7_1, x8, (D_1 1), x1, x11, x12, x12, (D 0), (D 1), x16, undef, x0, x19, x19, x21, x0, x23, x24, x19, x26, undef, x8, x1, x30, x31, (D_1 6), (D_1 7), x1, x8, x36, x37, x38, x39, (D_1 14), x1, x8, x43, x44, x45, x46, x46, (D_2 0), (D_2 1)] ++ [(D_2 2), (D_2 3), (D_2 4), (D_2 5), (D_2 6), (D_2 7), x56, (D_3 0), (D_3 1), (D_3 2), (D_3 3), (D_3 4), (D_3 5), (D_3 6), (D_3 7), (D_3 8), (D_3 9), (D_3 10), (D_3 11), (D_3 12), (D_3 13), (D_3 14), (D_3 15), (D_3 16), x19, x75, x6_1, x77, x78, x78, (D_1 54), (D_1 55), (D_1 56), (D_1 57), (D_1 58), (D_1 59), (D_1 60), (D_1 61), (D_1 62), (D_1 63), (D_1 64), (D_1 65), (D_1 66), (D_1 67), (D_1 68), (D_1 69), (D_1 70), (D_1 71), (D_1 72), (D_1 73)] ++ [(D_1 74), (D_1 75), (D_1 76), (D_1 77), (D_1 78), (D_1 79), (D_1 80), (D_1 81), (D_1 82), (D_1 83), (D_1 84), (D_1 85), (D_1 86), (D_1 87), (D_1 88), (D_1 89), (D_1 90), undef]).toArray, []⟩) (by kernel_rfl) ?_
                    refine ls_orh [(), (), (), (), (), (), (), ()] (fun K a w => ∃ (D_4 : Nat → Value) (x87 : Value) (h_7 : Heap), a = ⟨([x0, x1, undef, undef, (D_1 0), x19, x6_1, x7_1, x8, (D_1 1), x1, x11, x12, x12, (D 0), (D 1), x16, undef, x0, x19, x19, x21, x0, x23, x24, x19, x26, undef, x8, x1, x30, x31, (D_1 6), (D_1 7), x1, x8, x36, x37, x38, x39, (D_1 14), x1, x8, x43, x44, x45, x46, x46, (D_2 0), (D_2 1)] ++ [(D_2 2), (D_2 3), (D_2 4), (D_2 5), (D_2 6), (D_2 7), x56, (D_3 0), (D_3 1), (D_3 2), (D_3 3), (D_3 4), (D_3 5), (D_3 6), (D_3 7), (D_3 8), (D_3 9), (D_3 10), (D_3 11), (D_3 12), (D_3 13), (D_3 14), (D_3 15), (D_3 16), x19, x75, x6_1, x77, x78, x78, (D_4 0), (D_4 1), (D_4 2), (D_4 3), (D_4 4), (D_4 5), (D_4 6), x87, (D_1 62), (D_1 63), (D_1 64), (D_1 65), (D_1 66), (D_1 67), (D_1 68), (D_1 69), (D_1 70), (D_1 71), (D_1 72), (D_1 73)] ++ [(D_1 74), (D_1 75), (D_1 76), (D_1 77), (D_1 78), (D_1 79), (D_1 80), (D_1 81), (D_1 82), (D_1 83), (D_1 84), (D_1 85), (D_1 86), (D_1 87), (D_1 88), (D_1 89), (D_1 90), undef]).toArray, []⟩ ∧ At w0 w h_7 ∧ K x87 h_7) H (fun hb_2 H => ?_) (fun hb_2 H => ?_) ?_
                    · refine ls_move (x := x19) (by rw [hb_2]; kernel_rfl) (by kernel_rfl) ?_
                      refine ls_d (d := some 81) (by kernel_rfl) (by rw [hb_2]; kernel_rfl) HA_8 (d_call (by kernel_rfl) (by kernel_rfl) H) (fun x81 h_15 w_18 H HA_18 => ?_)
                      refine ls_move (x := x7_1) (by rw [hb_2]; kernel_rfl) (by kernel_rfl) ?_
                      refine ls_move (x := x6_1) (by rw [hb_2]; kernel_rfl) (by kernel_rfl) ?_
                      refine ls_p (d := some 84) (by kernel_rfl) (by rw [hb_2]; kernel_rfl) (p_len Tryd.underlying39 (by kernel_rfl) H) (fun x84 H => ?_)
                      refine ls_p (d := some 85) (by kernel_rfl) (by rw [hb_2]; kernel_rfl) (p_sub (by kernel_rfl) (by kernel_rfl) H) (fun x85 H => ?_)
                      refine ls_fr (b := ⟨([x0, x1, undef, undef, (D_1 0), x19, x6_1, x7_1, x8, (D_1 1), x1, x11, x12, x12, (D 0), (D 1), x16, undef, x0, x19, x19, x21, x0, x23, x24, x19, x26, undef, x8, x1, x30, x31, (D_1 6), (D_1 7), x1, x8, x36, x37, x38, x39, (D_1 14), x1, x8, x43, x44, x45, x46, x46, (D_2 0), (D_2 1)] ++ [(D_2 2), (D_2 3), (D_2 4), (D_2 5), (D_2 6), (D_2 7), x56, (D_3 0), (D_3 1), (D_3 2), (D_3 3), (D_3 4), (D_3 5), (D_3 6), (D_3 7), (D_3 8), (D_3 9), (D_3 10), (D_3 11), (D_3 12), (D_3 13), (D_3 14), (D_3 15), (D_3 16), x19, x75, x6_1, x77, x78, x78, x19, x81, x7_1, x6_1, x84, x85, (D_1 60), (D_1 61), (D_1 62), (D_1 63), (D_1 64), (D_1 65), (D_1 66), (D_1 67), (D_1 68), (D_1 69), (D_1 70), (D_1 71), (D_1 72), (D_1 73)] ++ [(D_1 74), (D_1 75), (D_1 76), (D_1 77), (D_1 78), (D_1 79), (D_1 80), (D_1 81), (D_1 82), (D_1 83), (D_1 84), (D_1 85), (D_1 86), (D_1 87), (D_1 88), (D_1 89), (D_1 90), undef]).toArray, []⟩) (by kernel_rfl) ?_
                      refine ls_p (d := some 86) (by kernel_rfl) (by rw [hb_2]; kernel_rfl) (p_sNe (by kernel_rfl) (by kernel_rfl) H) (fun x86 H => ?_)
                      refine ls_pick_f (y := x86) (by kernel_rfl) (by rw [hb_2]; kernel_rfl) (by kernel_rfl) ?_
                      refine ls_nil ?_
                      refine then_normal ?_
                      exact ⟨(fun i => ([x19, x81, x7_1, x6_1, x84, x85, x86]).getD i undef), x86, h_15, by kernel_rfl, HA_18, H⟩
                    · refine ls_skip (d := some 80) (by kernel_rfl) (by rw [hb_2]; kernel_rfl) ?_
                      refine ls_skip (d := some 81) (by kernel_rfl) (by rw [hb_2]; kernel_rfl) ?_
                      refine ls_skip (d := some 82) (by kernel_rfl) (by rw [hb_2]; kernel_rfl) ?_
                      refine ls_skip (d := some 83) (by kernel_rfl) (by rw [hb_2]; kernel_rfl) ?_
                      refine ls_skip (d := some 84) (by kernel_rfl) (by rw [hb_2]; kernel_rfl) ?_
                      refine ls_skip (d := some 85) (by kernel_rfl) (by rw [hb_2]; kernel_rfl) ?_
                      refine ls_fr (b := ⟨([x0, x1, undef, undef, (D_1 0), x19, x6_1, x7_1, x8, (D_1 1), x1, x11, x12, x12, (D 0), (D 1), x16, undef, x0, x19, x19, x21, x0, x23, x24, x19, x26, undef, x8, x1, x30, x31, (D_1 6), (D_1 7), x1, x8, x36, x37, x38, x39, (D_1 14), x1, x8, x43, x44, x45, x46, x46, (D_2 0), (D_2 1)] ++ [(D_2 2), (D_2 3), (D_2 4), (D_2 5), (D_2 6), (D_2 7), x56, (D_3 0), (D_3 1), (D_3 2), (D_3 3), (D_3 4), (D_3 5), (D_3 6), (D_3 7), (D_3 8), (D_3 9), (D_3 10), (D_3 11), (D_3 12), (D_3 13), (D_3 14), (D_3 15), (D_3 16), x19, x75, x6_1, x77, x78, x78, undef, undef, undef, undef, undef, undef, (D_1 60), (D_1 61), (D_1 62), (D_1 63), (D_1 64), (D_1 65), (D_1 66), (D_1 67), (D_1 68), (D_1 69), (D_1 70), (D_1 71), (D_1 72), (D_1 73)] ++ [(D_1 74), (D_1 75), (D_1 76), (D_1 77), (D_1 78), (D_1 79), (D_1 80), (D_1 81), (D_1 82), (D_1 83), (D_1 84), (D_1 85), (D_1 86), (D_1 87), (D_1 88), (D_1 89), (D_1 90), undef]).toArray, []⟩) (by kernel_rfl) ?_
                      refine ls_skip (d := some 86) (by kernel_rfl) (by rw [hb_2]; kernel_rfl) ?_
                      refine ls_pick_t (x := (.bool true)) (by kernel_rfl) (by rw [hb_2]; kernel_rfl) (by kernel_rfl) ?_
                      refine ls_nil ?_
                      refine then_normal ?_
                      exact ⟨(fun i => ([undef, undef, undef, undef, undef, undef, undef]).getD i undef), (.bool true), h_6, by kernel_rfl, HA_8, H⟩
                    · rintro _ w_9 ⟨D_4, x87, h_7, rfl, HA_9, H⟩
                      refine ls_move (x := x87) (by kernel_rfl) (by kernel_rfl) ?_
                      refine ls_orh [(), (), (), (), ()] (fun K a w => ∃ (D_5 : Nat → Value) (x93 : Value) (h_8 : Heap), a = ⟨([x0, x1, undef, undef, (D_1 0), x19, x6_1, x7_1, x8, (D_1 1), x1, x11, x12, x12, (D 0), (D 1), x16, undef, x0, x19, x19, x21, x0, x23, x24, x19, x26, undef, x8, x1, x30, x31, (D_1 6), (D_1 7), x1, x8, x36, x37, x38, x39, (D_1 14), x1, x8, x43, x44, x45, x46, x46, (D_2 0), (D_2 1)] ++ [(D_2 2), (D_2 3), (D_2 4), (D_2 5), (D_2 6), (D_2 7), x56, (D_3 0), (D_3 1), (D_3 2), (D_3 3), (D_3 4), (D_3 5), (D_3 6), (D_3 7), (D_3 8), (D_3 9), (D_3 10), (D_3 11), (D_3 12), (D_3 13), (D_3 14), (D_3 15), (D_3 16), x19, x75, x6_1, x77, x78, x78, (D_4 0), (D_4 1), (D_4 2), (D_4 3), (D_4 4), (D_4 5), (D_4 6), x87, x87, (D_5 0), (D_5 1), (D_5 2), (D_5 3), x93, (D_1 68), (D_1 69), (D_1 70), (D_1 71), (D_1 72), (D_1 73)] ++ [(D_1 74), (D_1 75), (D_1 76), (D_1 77), (D_1 78), (D_1 79), (D_1 80), (D_1 81), (D_1 82), (D_1 83), (D_1 84), (D_1 85), (D_1 86), (D_1 87), (D_1 88), (D_1 89), (D_1 90), undef]).toArray, []⟩ ∧ At w0 w h_8 ∧ K x93 h_8) H (fun hb_1 H => ?_) (fun hb_1 H => ?_) ?_
                      · refine ls_move (x := x19) (by rw [hb_1]; kernel_rfl) (by kernel_rfl) ?_
                        refine ls_d (d := some 90) (by kernel_rfl) (by rw [hb_1]; kernel_rfl) HA_9 (d_call (by kernel_rfl) (by kernel_rfl) H) (fun x90 h_14 w_17 H HA_17 => ?_)
                        refine ls_p (d := some 91) (by kernel_rfl) (by rw [hb_1]; kernel_rfl) (p_len Tryd.underlying22 (by kernel_rfl) H) (fun x91 H => ?_)
                        refine ls_p (d := some 92) (by kernel_rfl) (by rw [hb_1]; kernel_rfl) (p_sNe (by kernel_rfl) (by kernel_rfl) H) (fun x92 H => ?_)
                        refine ls_pick_f (y := x92) (by kernel_rfl) (by rw [hb_1]; kernel_rfl) (by kernel_rfl) ?_
                        refine ls_nil ?_
                        refine then_normal ?_
                        exact ⟨(fun i => ([x19, x90, x91, x92]).getD i undef), x92, h_14, by kernel_rfl, HA_17, H⟩
                      · refine ls_skip (d := some 89) (by kernel_rfl) (by rw [hb_1]; kernel_rfl) ?_
                        refine ls_skip (d := some 90) (by kernel_rfl) (by rw [hb_1]; kernel_rfl) ?_
                        refine ls_skip (d := some 91) (by kernel_rfl) (by rw [hb_1]; kernel_rfl) ?_
                        refine ls_skip (d := some 92) (by kernel_rfl) (by rw [hb_1]; kernel_rfl) ?_
                        refine ls_pick_t (x := (.bool true)) (by kernel_rfl) (by rw [hb_1]; kernel_rfl) (by kernel_rfl) ?_
                        refine ls_nil ?_
                        refine then_normal ?_
                        exact ⟨(fun i => ([undef, undef, undef, undef]).getD i undef), (.bool true), h_7, by kernel_rfl, HA_9, H⟩
                      · rintro _ w_10 ⟨D_5, x93, h_8, rfl, HA_10, H⟩
                        refine ls_move (x := x93) (by kernel_rfl) (by kernel_rfl) ?_
                        refine ls_orh [(), (), (), (), (), (), ()] (fun K a w => ∃ (D_6 : Nat → Value) (x101 : Value) (h_9 : Heap), a = ⟨([x0, x1, undef, undef, (D_1 0), x19, x6_1, x7_1, x8, (D_1 1), x1, x11, x12, x12, (D 0), (D 1), x16, undef, x0, x19, x19, x21, x0, x23, x24, x19, x26, undef, x8, x1, x30, x31, (D_1 6), (D_1 7), x1, x8, x36, x37, x38, x39, (D_1 14), x1, x8, x43, x44, x45, x46, x46, (D_2 0), (D_2 1)] ++ [(D_2 2), (D_2 3), (D_2 4), (D_2 5), (D_2 6), (D_2 7), x56, (D_3 0), (D_3 1), (D_3 2), (D_3 3), (D_3 4), (D_3 5), (D_3 6), (D_3 7), (D_3 8), (D_3 9), (D_3 10), (D_3 11), (D_3 12), (D_3 13), (D_3 14), (D_3 15), (D_3 16), x19, x75, x6_1, x77, x78, x78, (D_4 0), (D_4 1), (D_4 2), (D_4 3), (D_4 4), (D_4 5), (D_4 6), x87, x87, (D_5 0), (D_5 1), (D_5 2), (D_5 3), x93, x93, (D_6 0), (D_6 1), (D_6 2), (D_6 3), (D_6 4)] ++ [(D_6 5), x101, (D_1 76), (D_1 77), (D_1 78), (D_1 79), (D_1 80), (D_1 81), (D_1 82), (D_1 83), (D_1 84), (D_1 85), (D_1 86), (D_1 87), (D_1 88), (D_1 89), (D_1 90), undef]).toArray, []⟩ ∧ At w0 w h_9 ∧ K x101 h_9) H (fun hb H => ?_) (fun hb H => ?_) ?_
                        · refine ls_move (x := x19) (by rw [hb]; kernel_rfl) (by kernel_rfl) ?_
                          refine ls_move (x := x6_1) (by rw [hb]; kernel_rfl) (by kernel_rfl) ?_
                          refine ls_p (d := some 97) (by kernel_rfl) (by rw [hb]; kernel_rfl) (p_len Tryd.underlying39 (by kernel_rfl) H) (fun x97 H => ?_)
                          refine ls_d (d := some 98) (by kernel_rfl) (by rw [hb]; kernel_rfl) HA_10 (d_call (by kernel_rfl) (by kernel_rfl) H) (fun x98 h_13 w_16 H HA_16 => ?_)
                          refine ls_p (d := some 99) (by kernel_rfl) (by rw [hb]; kernel_rfl) (p_len Tryd.underlying22 (by kernel_rfl) H) (fun x99 H => ?_)
                          refine ls_fr (b := ⟨([x0, x1, undef, undef, (D_1 0), x19, x6_1, x7_1, x8, (D_1 1), x1, x11, x12, x12, (D 0), (D 1), x16, undef, x0, x19, x19, x21, x0, x23, x24, x19, x26, undef, x8, x1, x30, x31, (D_1 6), (D_1 7), x1, x8, x36, x37, x38, x39, (D_1 14), x1, x8, x43, x44, x45, x46, x46, (D_2 0), (D_2 1)] ++ [(D_2 2), (D_2 3), (D_2 4), (D_2 5), (D_2 6), (D_2 7), x56, (D_3 0), (D_3 1), (D_3 2), (D_3 3), (D_3 4), (D_3 5), (D_3 6), (D_3 7), (D_3 8), (D_3 9), (D_3 10), (D_3 11), (D_3 12), (D_3 13), (D_3 14), (D_3 15), (D_3 16), x19, x75, x6_1, x77, x78, x78, (D_4 0), (D_4 1), (D_4 2), (D_4 3), (D_4 4), (D_4 5), (D_4 6), x87, x87, (D_5 0), (D_5 1), (D_5 2), (D_5 3), x93, x93, x19, x6_1, x97, x98, x99] ++ [(D_1 74), (D_1 75), (D_1 76), (D_1 77), (D_1 78), (D_1 79), (D_1 80), (D_1 81), (D_1 82), (D_1 83), (D_1 84), (D_1 85), (D_1 86), (D_1 87), (D_1 88), (D_1 89), (D_1 90), undef]).toArray, []⟩) (by kernel_rfl) ?_
                          refine ls_p (d := some 100) (by kernel_rfl) (by rw [hb]; kernel_rfl) (p_sNe (by kernel_rfl) (by kernel_rfl) H) (fun x100 H => ?_)
                          refine ls_pick_f (y := x100) (by kernel_rfl) (by rw [hb]; kernel_rfl) (by kernel_rfl) ?_
                          refine ls_nil ?_
                          refine then_normal ?_
                          exact ⟨(fun i => ([x19, x6_1, x97, x98, x99, x100]).getD i undef), x100, h_13, by kernel_rfl, HA_16, H⟩
                        · refine ls_skip (d := some 95) (by kernel_rfl) (by rw [hb]; kernel_rfl) ?_
                          refine ls_skip (d := some 96) (by kernel_rfl) (by rw [hb]; kernel_rfl) ?_
                          refine ls_skip (d := some 97) (by kernel_rfl) (by rw [hb]; kernel_rfl) ?_
                          refine ls_skip (d := some 98) (by kernel_rfl) (by rw [hb]; kernel_rfl) ?_
                          refine ls_skip (d := some 99) (by kernel_rfl) (by rw [hb]; kernel_rfl) ?_
                          refine ls_fr (b := ⟨([x0, x1, undef, undef, (D_1 0), x19, x6_1, x7_1, x8, (D_1 1), x1, x11, x12, x12, (D 0), (D 1), x16, undef, x0, x19, x19, x21, x0, x23, x24, x19, x26, undef, x8, x1, x30, x31, (D_1 6), (D_1 7), x1, x8, x36, x37, x38, x39, (D_1 14), x1, x8, x43, x44, x45, x46, x46, (D_2 0), (D_2 1)] ++ [(D_2 2), (D_2 3), (D_2 4), (D_2 5), (D_2 6), (D_2 7), x56, (D_3 0), (D_3 1), (D_3 2), (D_3 3), (D_3 4), (D_3 5), (D_3 6), (D_3 7), (D_3 8), (D_3 9), (D_3 10), (D_3 11), (D_3 12), (D_3 13), (D_3 14), (D_3 15), (D_3 16), x19, x75, x6_1, x77, x78, x78, (D_4 0), (D_4 1), (D_4 2), (D_4 3), (D_4 4), (D_4 5), (D_4 6), x87, x87, (D_5 0), (D_5 1), (D_5 2), (D_5 3), x93, x93, undef, undef, undef, undef, undef] ++ [(D_1 74), (D_1 75), (D_1 76), (D_1 77), (D_1 78), (D_1 79), (D_1 80), (D_1 81), (D_1 82), (D_1 83), (D_1 84), (D_1 85), (D_1 86), (D_1 87), (D_1 88), (D_1 89), (D_1 90), undef]).toArray, []⟩) (by kernel_rfl) ?_
                          refine ls_skip (d := some 100) (by kernel_rfl) (by rw [hb]; kernel_rfl) ?_
                          refine ls_pick_t (x := (.bool true)) (by kernel_rfl) (by rw [hb]; kernel_rfl) (by kernel_rfl) ?_
                          refine ls_nil ?_
                          refine then_normal ?_
                          exact ⟨(fun i => ([undef, undef, undef, undef, undef, undef]).getD i undef), (.bool true), h_8, by kernel_rfl, HA_10, H⟩
                        · rintro _ w_11 ⟨D_6, x101, h_9, rfl, HA_11, H⟩
                          refine ls_nil ?_
                          refine then_normal ?_
                          refine fr_eq (b := ⟨([x0, x1, undef, undef, (D_1 0), x19, x6_1, x7_1, x8, (D_1 1), x1, x11, x12, x12, (D 0), (D 1), x16, undef, x0, x19, x19, x21, x0, x23, x24, x19, x26, undef, x8, x1, x30, x31, (D_1 6), (D_1 7), x1, x8, x36, x37, x38, x39, (D_1 14), x1, x8, x43, x44, x45, x46, x46, (D_2 0), (D_2 1)] ++ [(D_2 2), (D_2 3), (D_2 4), (D_2 5), (D_2 6), (D_2 7), x56, (D_3 0), (D_3 1), (D_3 2), (D_3 3), (D_3 4), (D_3 5), (D_3 6), (D_3 7), (D_3 8), (D_3 9), (D_3 10), (D_3 11), (D_3 12), (D_3 13), (D_3 14), (D_3 15), (D_3 16), x19, x75, x6_1, x77, x78, x78, (D_4 0), (D_4 1), (D_4 2), (D_4 3), (D_4 4), (D_4 5), (D_4 6), x87, x87, (D_5 0), (D_5 1), (D_5 2), (D_5 3), x93, x93, (D_6 0), (D_6 1), (D_6 2), (D_6 3), (D_6 4)] ++ [(D_6 5), x101, (D_1 76), (D_1 77), (D_1 78), (D_1 79), (D_1 80), (D_1 81), (D_1 82), (D_1 83), (D_1 84), (D_1 85), (D_1 86), (D_1 87), (D_1 88), (D_1 89), (D_1 90), undef]).toArray, []⟩) (by kernel_rfl) ?_
                          refine wp_if rfl H (fun H => ?_) (fun H => ?_)
                          · refine wp_seq ?_
                            refine lwp_list ?_
                            refine ls_assign (x := (.bool false)) (by kernel_rfl) (by kernel_rfl) ?_
                            refine ls_nil ?_
                            refine then_normal ?_
                            refine fr_eq (b := ⟨([x0, x1, undef, undef, (.bool false), x19, x6_1, x7_1, x8, (D_1 1), x1, x11, x12, x12, (D 0), (D 1), x16, undef, x0, x19, x19, x21, x0, x23, x24, x19, x26, undef, x8, x1, x30, x31, (D_1 6), (D_1 7), x1, x8, x36, x37, x38, x39, (D_1 14), x1, x8, x43, x44, x45, x46, x46, (D_2 0), (D_2 1)] ++ [(D_2 2), (D_2 3), (D_2 4), (D_2 5), (D_2 6), (D_2 7), x56, (D_3 0), (D_3 1), (D_3 2), (D_3 3), (D_3 4), (D_3 5), (D_3 6), (D_3 7), (D_3 8), (D_3 9), (D_3 10), (D_3 11), (D_3 12), (D_3 13), (D_3 14), (D_3 15), (D_3 16), x19, x75, x6_1, x77, x78, x78, (D_4 0), (D_4 1), (D_4 2), (D_4 3), (D_4 4), (D_4 5), (D_4 6), x87, x87, (D_5 0), (D_5 1), (D_5 2), (D_5 3), x93, x93, (D_6 0), (D_6 1), (D_6 2), (D_6 3), (D_6 4)] ++ [(D_6 5), x101, (D_1 76), (D_1 77), (D_1 78), (D_1 79), (D_1 80), (D_1 81), (D_1 82), (D_1 83), (D_1 84), (D_1 85), (D_1 86), (D_1 87), (D_1 88), (D_1 89), (D_1 90), undef]).toArray, []⟩) (by kernel_rfl) ?_
                            refine wp_ret ?_
                            refine then_ret ?_
                            refine block_ret ?_
                            refine then_ret ?_
                            refine then_ret ?_
                            refine block_ret ?_
                            refine then_ret ?_
                            exact end1 (Tryd.results6) (by kernel_rfl) (by kernel_rfl) HA_11 H _ (.inr rfl)
                          · refine wp_skip ?_
                            refine then_normal ?_
                            refine fr_eq (b := ⟨([x0, x1, undef, undef, (D_1 0), x19, x6_1, x7_1, x8, (D_1 1), x1, x11, x12, x12, (D 0), (D 1), x16, undef, x0, x19, x19, x21, x0, x23, x24, x19, x26, undef, x8, x1, x30, x31, (D_1 6), (D_1 7), x1, x8, x36, x37, x38, x39, (D_1 14), x1, x8, x43, x44, x45, x46, x46, (D_2 0), (D_2 1)] ++ [(D_2 2), (D_2 3), (D_2 4), (D_2 5), (D_2 6), (D_2 7), x56, (D_3 0), (D_3 1), (D_3 2), (D_3 3), (D_3 4), (D_3 5), (D_3 6), (D_3 7), (D_3 8), (D_3 9), (D_3 10), (D_3 11), (D_3 12), (D_3 13), (D_3 14), (D_3 15), (D_3 16), x19, x75, x6_1, x77, x78, x78, (D_4 0), (D_4 1), (D_4 2), (D_4 3), (D_4 4), (D_4 5), (D_4 6), x87, x87, (D_5 0), (D_5 1), (D_5 2), (D_5 3), x93, x93, (D_6 0), (D_6 1), (D_6 2), (D_6 3), (D_6 4)] ++ [(D_6 5), x101, (D_1 76), (D_1 77), (D_1 78), (D_1 79), (D_1 80), (D_1 81), (D_1 82), (D_1 83), (D_1 84), (D_1 85), (D_1 86), (D_1 87), (D_1 88), (D_1 89), (D_1 90), undef]).toArray, []⟩) (by kernel_rfl) ?_
                            refine wp_seq ?_
                            refine lwp_list ?_
                            refine ls_assign (x := (.int .i64 0)) (by kernel_rfl) (by kernel_rfl) ?_
                            refine ls_nil ?_
                            refine then_normal ?_
                            refine fr_eq (b := ⟨([x0, x1, undef, undef, (D_1 0), x19, x6_1, x7_1, x8, (.int .i64 0), x1, x11, x12, x12, (D 0), (D 1), x16, undef, x0, x19, x19, x21, x0, x23, x24, x19, x26, undef, x8, x1, x30, x31, (D_1 6), (D_1 7), x1, x8, x36, x37, x38, x39, (D_1 14), x1, x8, x43, x44, x45, x46, x46, (D_2 0), (D_2 1)] ++ [(D_2 2), (D_2 3), (D_2 4), (D_2 5), (D_2 6), (D_2 7), x56, (D_3 0), (D_3 1), (D_3 2), (D_3 3), (D_3 4), (D_3 5), (D_3 6), (D_3 7), (D_3 8), (D_3 9), (D_3 10), (D_3 11), (D_3 12), (D_3 13), (D_3 14), (D_3 15), (D_3 16), x19, x75, x6_1, x77, x78, x78, (D_4 0), (D_4 1), (D_4 2), (D_4 3), (D_4 4), (D_4 5), (D_4 6), x87, x87, (D_5 0), (D_5 1), (D_5 2), (D_5 3), x93, x93, (D_6 0), (D_6 1), (D_6 2), (D_6 3), (D_6 4)] ++ [(D_6 5), x101, (D_1 76), (D_1 77), (D_1 78), (D_1 79), (D_1 80), (D_1 81), (D_1 82), (D_1 83), (D_1 84), (D_1 85), (D_1 86), (D_1 87), (D_1 88), (D_1 89), (D_1 90), undef]).toArray, []⟩) (by kernel_rfl) ?_
                            refine wp_block ?_
                            obtain ⟨I_1, m_1, H0, HB⟩ := H
                            refine wp_loop (fun a w => ∃ (D_7 : Nat → Value) (x9 : Value) (h_10 : Heap), a = ⟨([x0, x1, undef, undef, (D_7 0), x19, x6_1, x7_1, x8, x9, x1, x11, x12, x12, (D 0), (D 1), x16, undef, x0, x19, x19, x21, x0, x23, x24, x19, x26, undef, x8, x1, x30, x31, (D_1 6), (D_1 7), x1, x8, x36, x37, x38, x39, (D_1 14), x1, x8, x43, x44, x45, x46, x46, (D_2 0), (D_2 1)] ++ [(D_2 2), (D_2 3), (D_2 4), (D_2 5), (D_2 6), (D_2 7), x56, (D_3 0), (D_3 1), (D_3 2), (D_3 3), (D_3 4), (D_3 5), (D_3 6), (D_3 7), (D_3 8), (D_3 9), (D_3 10), (D_3 11), (D_3 12), (D_3 13), (D_3 14), (D_3 15), (D_3 16), x19, x75, x6_1, x77, x78, x78, (D_4 0), (D_4 1), (D_4 2), (D_4 3), (D_4 4), (D_4 5), (D_4 6), x87, x87, (D_5 0), (D_5 1), (D_5 2), (D_5 3), x93, x93, (D_6 0), (D_6 1), (D_6 2), (D_6 3), (D_6 4)] ++ [(D_6 5), x101, (D_7 1), (D_7 2), (D_7 3), (D_7 4), (D_7 5), (D_7 6), (D_7 7), (D_7 8), (D_7 9), (D_7 10), (D_7 11), (D_7 12), (D_7 13), (D_7 14), (D_7 15), undef]).toArray, []⟩ ∧ At w0 w h_10 ∧ I_1 x9 h_10) (fun a w => m_1 (a.tmps.getD 9 undef) w.heap) ?_ ?_
                            · exact ⟨(fun i => ([(D_1 0), (D_1 76), (D_1 77), (D_1 78), (D_1 79), (D_1 80), (D_1 81), (D_1 82), (D_1 83), (D_1 84), (D_1 85), (D_1 86), (D_1 87), (D_1 88), (D_1 89), (D_1 90)]).getD i undef), (.int .i64 0), h_9, by kernel_rfl, HA_11, H0⟩
                            · rintro _ w_12 ⟨D_7, x9, h_10, rfl, HA_12, HI⟩
                              have H : betonylaw26_BackPlays_l3 R (fun x6' x7' x8' h' => I (x6', x7', x8') h' ∧ m (x6', x7', x8') h' < m (x6, x7, x8) h_3) x19 x6_1 x7_1 x8 (fun x9' h' => I_1 x9' h' ∧ m_1 x9' h' < m_1 x9 h_10) x9 h_10 := HB x9 h_10 HI
                              clear HB H0 HI
                              unfold betonylaw26_BackPlays_l3 at H
                              refine wp_seq ?_
                              refine wp_seq ?_
                              refine lwp_list ?_
                              refine ls_move (x := x9) (by kernel_rfl) (by kernel_rfl) ?_
                              refine ls_move (x := x6_1) (by kernel_rfl) (by kernel_rfl) ?_
                              refine ls_p (d := some 104) (by kernel_rfl) (by kernel_rfl) (p_len Tryd.underlying39 (by kernel_rfl) H) (fun x104 H => ?_)
                              refine ls_p (d := some 105) (by kernel_rfl) (by kernel_rfl) (p_sLt (by kernel_rfl) (by kernel_rfl) H) (fun x105 H => ?_)
                              refine ls_nil ?_
                              refine then_normal ?_
                              refine fr_eq (b := ⟨([x0, x1, undef, undef, (D_7 0), x19, x6_1, x7_1, x8, x9, x1, x11, x12, x12, (D 0), (D 1), x16, undef, x0, x19, x19, x21, x0, x23, x24, x19, x26, undef, x8, x1, x30, x31, (D_1 6), (D_1 7), x1, x8, x36, x37, x38, x39, (D_1 14), x1, x8, x43, x44, x45, x46, x46, (D_2 0), (D_2 1)] ++ [(D_2 2), (D_2 3), (D_2 4), (D_2 5), (D_2 6), (D_2 7), x56, (D_3 0), (D_3 1), (D_3 2), (D_3 3), (D_3 4), (D_3 5), (D_3 6), (D_3 7), (D_3 8), (D_3 9), (D_3 10), (D_3 11), (D_3 12), (D_3 13), (D_3 14), (D_3 15), (D_3 16), x19, x75, x6_1, x77, x78, x78, (D_4 0), (D_4 1), (D_4 2), (D_4 3), (D_4 4), (D_4 5), (D_4 6), x87, x87, (D_5 0), (D_5 1), (D_5 2), (D_5 3), x93, x93, (D_6 0), (D_6 1), (D_6 2), (D_6 3), (D_6 4)] ++ [(D_6 5), x101, x9, x6_1, x104, x105, (D_7 5), (D_7 6), (D_7 7), (D_7 8), (D_7 9), (D_7 10), (D_7 11), (D_7 12), (D_7 13), (D_7 14), (D_7 15), undef]).toArray, []⟩) (by kernel_rfl) ?_
                              refine wp_if rfl H (fun H => ?_) (fun H => ?_)
                              · refine wp_skip ?_
                                refine then_normal ?_
                                refine fr_eq (b := ⟨([x0, x1, undef, undef, (D_7 0), x19, x6_1, x7_1, x8, x9, x1, x11, x12, x12, (D 0), (D 1), x16, undef, x0, x19, x19, x21, x0, x23, x24, x19, x26, undef, x8, x1, x30, x31, (D_1 6), (D_1 7), x1, x8, x36, x37, x38, x39, (D_1 14), x1, x8, x43, x44, x45, x46, x46, (D_2 0), (D_2 1)] ++ [(D_2 2), (D_2 3), (D_2 4), (D_2 5), (D_2 6), (D_2 7), x56, (D_3 0), (D_3 1), (D_3 2), (D_3 3), (D_3 4), (D_3 5), (D_3 6), (D_3 7), (D_3 8), (D_3 9), (D_3 10), (D_3 11), (D_3 12), (D_3 13), (D_3 14), (D_3 15), (D_3 16), x19, x75, x6_1, x77, x78, x78, (D_4 0), (D_4 1), (D_4 2), (D_4 3), (D_4 4), (D_4 5), (D_4 6), x87, x87, (D_5 0), (D_5 1), (D_5 2), (D_5 3), x93, x93, (D_6 0), (D_6 1), (D_6 2), (D_6 3), (D_6 4)] ++ [(D_6 5), x101, x9, x6_1, x104, x105, (D_7 5), (D_7 6), (D_7 7), (D_7 8), (D_7 9), (D_7 10), (D_7 11), (D_7 12), (D_7 13), (D_7 14), (D_7 15), undef]).toArray, []⟩) (by kernel_rfl) ?_
                                refine wp_seq ?_
                                refine wp_block ?_
                                refine wp_seq ?_
                                obtain ⟨C, HC, H⟩ := H
                                refine lwp_mx (Nat.testBit 132) (Nat.testBit 4) (Nat.testBit 315) [0, 0, 3, 0, 0, 24, 56, 127, 255] (Nat.testBit 0) C [0, 1, 2, 3, 4, 5, 6, 7, 8] (by kernel_rfl) (by kernel_rfl) (by kernel_rfl) (by kernel_rfl) HA_12 HC ?_
                                intro w_13 HA_13
                                refine lm_al (x := x19) (d := some 108) (by kernel_rfl) rfl (by kernel_rfl) (by kernel_rfl) (al_move (by kernel_rfl)) ?_
                                refine lm_al (x := x9) (d := some 109) (by kernel_rfl) rfl (by kernel_rfl) (by kernel_rfl) (al_move (by kernel_rfl)) ?_
                                refine lm_dc (d := some 110) (by kernel_rfl) rfl (by kernel_rfl) (by kernel_rfl) (by kernel_rfl) HA_13 (d_call (by kernel_rfl) (by kernel_rfl) H) (fun x110 h_11 w_14 H HA_14 => ?_)
                                refine lm_al (x := x6_1) (d := some 111) (by kernel_rfl) rfl (by kernel_rfl) (by kernel_rfl) (al_move (by kernel_rfl)) ?_
                                refine lm_al (x := x9) (d := some 112) (by kernel_rfl) rfl (by kernel_rfl) (by kernel_rfl) (al_move (by kernel_rfl)) ?_
                                refine lm_p (d := some 113) (by kernel_rfl) rfl (by kernel_rfl) (by kernel_rfl) (p_ixs Tryd.underlying39 Tryd.sizeOf22 (by kernel_rfl) (by kernel_rfl) H) (fun x113 H => ?_)
                                refine lm_fr (b := ⟨([x0, x1, undef, undef, (D_7 0), x19, x6_1, x7_1, x8, x9, x1, x11, x12, x12, (D 0), (D 1), x16, undef, x0, x19, x19, x21, x0, x23, x24, x19, x26, undef, x8, x1, x30, x31, (D_1 6), (D_1 7), x1, x8, x36, x37, x38, x39, (D_1 14), x1, x8, x43, x44, x45, x46, x46, (D_2 0), (D_2 1)] ++ [(D_2 2), (D_2 3), (D_2 4), (D_2 5), (D_2 6), (D_2 7), x56, (D_3 0), (D_3 1), (D_3 2), (D_3 3), (D_3 4), (D_3 5), (D_3 6), (D_3 7), (D_3 8), (D_3 9), (D_3 10), (D_3 11), (D_3 12), (D_3 13), (D_3 14), (D_3 15), (D_3 16), x19, x75, x6_1, x77, x78, x78, (D_4 0), (D_4 1), (D_4 2), (D_4 3), (D_4 4), (D_4 5), (D_4 6), x87, x87, (D_5 0), (D_5 1), (D_5 2), (D_5 3), x93, x93, (D_6 0), (D_6 1), (D_6 2), (D_6 3), (D_6 4)] ++ [(D_6 5), x101, x9, x6_1, x104, x105, (D_7 5), (D_7 6), x19, x9, x110, x6_1, x9, x113, (D_7 13), (D_7 14), (D_7 15), undef]).toArray, []⟩) (by kernel_rfl) ?_
                                refine lm_f (d := some 114) (by kernel_rfl) rfl (by kernel_rfl) (by kernel_rfl) (by kernel_rfl) (by kernel_rfl) (c_ld Tryd.isAgg22 (by kernel_rfl) H) (fun x114 H => ?_)
                                refine lm_d (d := some 115) (by kernel_rfl) rfl (by kernel_rfl) (by kernel_rfl) (by kernel_rfl) HA_14 (d_call (by kernel_rfl) (by kernel_rfl) H) (fun x115 h_12 w_15 H HA_15 => ?_)
                                refine lm_p (d := some 116) (by kernel_rfl) rfl (by kernel_rfl) (by kernel_rfl) (p_not (by kernel_rfl) H) (fun x116 H => ?_)
                                refine lm_nil ?_
                                refine then_normal ?_
                                refine fr_eq (b := ⟨([x0, x1, undef, undef, (D_7 0), x19, x6_1, x7_1, x8, x9, x1, x11, x12, x12, (D 0), (D 1), x16, undef, x0, x19, x19, x21, x0, x23, x24, x19, x26, undef, x8, x1, x30, x31, (D_1 6), (D_1 7), x1, x8, x36, x37, x38, x39, (D_1 14), x1, x8, x43, x44, x45, x46, x46, (D_2 0), (D_2 1)] ++ [(D_2 2), (D_2 3), (D_2 4), (D_2 5), (D_2 6), (D_2 7), x56, (D_3 0), (D_3 1), (D_3 2), (D_3 3), (D_3 4), (D_3 5), (D_3 6), (D_3 7), (D_3 8), (D_3 9), (D_3 10), (D_3 11), (D_3 12), (D_3 13), (D_3 14), (D_3 15), (D_3 16), x19, x75, x6_1, x77, x78, x78, (D_4 0), (D_4 1), (D_4 2), (D_4 3), (D_4 4), (D_4 5), (D_4 6), x87, x87, (D_5 0), (D_5 1), (D_5 2), (D_5 3), x93, x93, (D_6 0), (D_6 1), (D_6 2), (D_6 3), (D_6 4)] ++ [(D_6 5), x101, x9, x6_1, x104, x105, (D_7 5), (D_7 6), x19, x9, x110, x6_1, x9, x113, x114, x115, x116, undef]).toArray, []⟩) (by kernel_rfl) ?_
                                refine wp_if rfl H (fun H => ?_) (fun H => ?_)
                                · refine wp_seq ?_
                                  refine lwp_list ?_
                                  refine ls_assign (x := (.bool false)) (by kernel_rfl) (by kernel_rfl) ?_
                                  refine ls_nil ?_
                                  refine then_normal ?_
                                  refine fr_eq (b := ⟨([x0, x1, undef, undef, (.bool false), x19, x6_1, x7_1, x8, x9, x1, x11, x12, x12, (D 0), (D 1), x16, undef, x0, x19, x19, x21, x0, x23, x24, x19, x26, undef, x8, x1, x30, x31, (D_1 6), (D_1 7), x1, x8, x36, x37, x38, x39, (D_1 14), x1, x8, x43, x44, x45, x46, x46, (D_2 0), (D_2 1)] ++ [(D_2 2), (D_2 3), (D_2 4), (D_2 5), (D_2 6), (D_2 7), x56, (D_3 0), (D_3 1), (D_3 2), (D_3 3), (D_3 4), (D_3 5), (D_3 6), (D_3 7), (D_3 8), (D_3 9), (D_3 10), (D_3 11), (D_3 12), (D_3 13), (D_3 14), (D_3 15), (D_3 16), x19, x75, x6_1, x77, x78, x78, (D_4 0), (D_4 1), (D_4 2), (D_4 3), (D_4 4), (D_4 5), (D_4 6), x87, x87, (D_5 0), (D_5 1), (D_5 2), (D_5 3), x93, x93, (D_6 0), (D_6 1), (D_6 2), (D_6 3), (D_6 4)] ++ [(D_6 5), x101, x9, x6_1, x104, x105, (D_7 5), (D_7 6), x19, x9, x110, x6_1, x9, x113, x114, x115, x116, undef]).toArray, []⟩) (by kernel_rfl) ?_
                                  refine wp_ret ?_
                                  refine block_ret ?_
                                  refine then_ret ?_
                                  refine then_ret ?_
                                  refine block_ret ?_
                                  refine block_ret ?_
                                  refine then_ret ?_
                                  refine then_ret ?_
                                  refine block_ret ?_
                                  refine then_ret ?_
                                  exact end1 (Tryd.results6) (by kernel_rfl) (by kernel_rfl) HA_15 H _ (.inr rfl)
                                · refine wp_skip ?_
                                  refine block_normal ?_
                                  refine then_normal ?_
                                  refine fr_eq (b := ⟨([x0, x1, undef, undef, (D_7 0), x19, x6_1, x7_1, x8, x9, x1, x11, x12, x12, (D 0), (D 1), x16, undef, x0, x19, x19, x21, x0, x23, x24, x19, x26, undef, x8, x1, x30, x31, (D_1 6), (D_1 7), x1, x8, x36, x37, x38, x39, (D_1 14), x1, x8, x43, x44, x45, x46, x46, (D_2 0), (D_2 1)] ++ [(D_2 2), (D_2 3), (D_2 4), (D_2 5), (D_2 6), (D_2 7), x56, (D_3 0), (D_3 1), (D_3 2), (D_3 3), (D_3 4), (D_3 5), (D_3 6), (D_3 7), (D_3 8), (D_3 9), (D_3 10), (D_3 11), (D_3 12), (D_3 13), (D_3 14), (D_3 15), (D_3 16), x19, x75, x6_1, x77, x78, x78, (D_4 0), (D_4 1), (D_4 2), (D_4 3), (D_4 4), (D_4 5), (D_4 6), x87, x87, (D_5 0), (D_5 1), (D_5 2), (D_5 3), x93, x93, (D_6 0), (D_6 1), (D_6 2), (D_6 3), (D_6 4)] ++ [(D_6 5), x101, x9, x6_1, x104, x105, (D_7 5), (D_7 6), x19, x9, x110, x6_1, x9, x113, x114, x115, x116, undef]).toArray, []⟩) (by kernel_rfl) ?_
                                  refine lwp_list ?_
                                  refine ls_move (x := x9) (by kernel_rfl) (by kernel_rfl) ?_
                                  refine ls_p (d := some 107) (by kernel_rfl) (by kernel_rfl) (p_add (by kernel_rfl) (by kernel_rfl) H) (fun x107 H => ?_)
                                  refine ls_assign (x := x107) (by kernel_rfl) (by kernel_rfl) ?_
                                  refine ls_nil ?_
                                  exact ⟨⟨(fun i => ([(D_7 0), x9, x6_1, x104, x105, x9, x107, x19, x9, x110, x6_1, x9, x113, x114, x115, x116]).getD i undef), x107, h_12, by kernel_rfl, HA_15, H.1⟩, loop_lt HA_15.heap HA_12.heap (by kernel_rfl) (by kernel_rfl) H.2⟩
                              · refine wp_exit ?_
                                refine then_exit ?_
                                refine then_exit ?_
                                refine block_exit ?_
                                refine block_normal ?_
                                refine then_normal ?_
                                refine fr_eq (b := ⟨([x0, x1, undef, undef, (D_7 0), x19, x6_1, x7_1, x8, x9, x1, x11, x12, x12, (D 0), (D 1), x16, undef, x0, x19, x19, x21, x0, x23, x24, x19, x26, undef, x8, x1, x30, x31, (D_1 6), (D_1 7), x1, x8, x36, x37, x38, x39, (D_1 14), x1, x8, x43, x44, x45, x46, x46, (D_2 0), (D_2 1)] ++ [(D_2 2), (D_2 3), (D_2 4), (D_2 5), (D_2 6), (D_2 7), x56, (D_3 0), (D_3 1), (D_3 2), (D_3 3), (D_3 4), (D_3 5), (D_3 6), (D_3 7), (D_3 8), (D_3 9), (D_3 10), (D_3 11), (D_3 12), (D_3 13), (D_3 14), (D_3 15), (D_3 16), x19, x75, x6_1, x77, x78, x78, (D_4 0), (D_4 1), (D_4 2), (D_4 3), (D_4 4), (D_4 5), (D_4 6), x87, x87, (D_5 0), (D_5 1), (D_5 2), (D_5 3), x93, x93, (D_6 0), (D_6 1), (D_6 2), (D_6 3), (D_6 4)] ++ [(D_6 5), x101, x9, x6_1, x104, x105, (D_7 5), (D_7 6), (D_7 7), (D_7 8), (D_7 9), (D_7 10), (D_7 11), (D_7 12), (D_7 13), (D_7 14), (D_7 15), undef]).toArray, []⟩) (by kernel_rfl) ?_
                                refine lwp_list ?_
                                refine ls_move (x := x8) (by kernel_rfl) (by kernel_rfl) ?_
                                refine ls_p (d := some 33) (by kernel_rfl) (by kernel_rfl) (p_add (by kernel_rfl) (by kernel_rfl) H) (fun x33 H => ?_)
                                refine ls_assign (x := x33) (by kernel_rfl) (by kernel_rfl) ?_
                                refine ls_nil ?_
                                exact ⟨⟨(fun i => ([(D_7 0), x9, x8, x1, x30, x31, x8, x33, x1, x8, x36, x37, x38, x39, (D_1 14), x1, x8, x43, x44, x45, x46, x46, (D_2 0), (D_2 1), (D_2 2), (D_2 3), (D_2 4), (D_2 5), (D_2 6), (D_2 7), x56, (D_3 0), (D_3 1), (D_3 2), (D_3 3), (D_3 4), (D_3 5), (D_3 6), (D_3 7), (D_3 8), (D_3 9), (D_3 10), (D_3 11), (D_3 12), (D_3 13), (D_3 14), (D_3 15), (D_3 16), x19, x75] ++ [x6_1, x77, x78, x78, (D_4 0), (D_4 1), (D_4 2), (D_4 3), (D_4 4), (D_4 5), (D_4 6), x87, x87, (D_5 0), (D_5 1), (D_5 2), (D_5 3), x93, x93, (D_6 0), (D_6 1), (D_6 2), (D_6 3), (D_6 4), (D_6 5), x101, x9, x6_1, x104, x105, (D_7 5), (D_7 6), (D_7 7), (D_7 8), (D_7 9), (D_7 10), (D_7 11), (D_7 12), (D_7 13), (D_7 14), (D_7 15)]).getD i undef), x6_1, x7_1, x33, h_10, by kernel_rfl, HA_12, H.1⟩, loop_lt HA_12.heap HA_4.heap (by kernel_rfl) (by kernel_rfl) H.2⟩
            · refine wp_exit ?_
              refine then_exit ?_
              refine then_exit ?_
              refine block_exit ?_
              refine then_normal ?_
              refine fr_eq (b := ⟨([x0, x1, undef, undef, (D_1 0), x19, x6, x7, x8, (D_1 1), x1, x11, x12, x12, (D 0), (D 1), x16, undef, x0, x19, x19, x21, x0, x23, x24, x19, x26, undef, x8, x1, x30, x31, (D_1 6), (D_1 7), (D_1 8), (D_1 9), (D_1 10), (D_1 11), (D_1 12), (D_1 13), (D_1 14), (D_1 15), (D_1 16), (D_1 17), (D_1 18), (D_1 19), (D_1 20), (D_1 21), (D_1 22), (D_1 23)] ++ [(D_1 24), (D_1 25), (D_1 26), (D_1 27), (D_1 28), (D_1 29), (D_1 30), (D_1 31), (D_1 32), (D_1 33), (D_1 34), (D_1 35), (D_1 36), (D_1 37), (D_1 38), (D_1 39), (D_1 40), (D_1 41), (D_1 42), (D_1 43), (D_1 44), (D_1 45), (D_1 46), (D_1 47), (D_1 48), (D_1 49), (D_1 50), (D_1 51), (D_1 52), (D_1 53), (D_1 54), (D_1 55), (D_1 56), (D_1 57), (D_1 58), (D_1 59), (D_1 60), (D_1 61), (D_1 62), (D_1 63), (D_1 64), (D_1 65), (D_1 66), (D_1 67), (D_1 68), (D_1 69), (D_1 70), (D_1 71), (D_1 72), (D_1 73)] ++ [(D_1 74), (D_1 75), (D_1 76), (D_1 77), (D_1 78), (D_1 79), (D_1 80), (D_1 81), (D_1 82), (D_1 83), (D_1 84), (D_1 85), (D_1 86), (D_1 87), (D_1 88), (D_1 89), (D_1 90), undef]).toArray, []⟩) (by kernel_rfl) ?_
              refine wp_seq ?_
              refine lwp_list ?_
              refine ls_d (d := some 117) (by kernel_rfl) (by kernel_rfl) HA_4 (d_call (by kernel_rfl) (by kernel_rfl) H) (fun x117 h_19 w_22 H HA_22 => ?_)
              refine ls_assign (x := x117) (by kernel_rfl) (by kernel_rfl) ?_
              refine ls_nil ?_
              refine then_normal ?_
              refine fr_eq (b := ⟨([x0, x1, undef, undef, x117, x19, x6, x7, x8, (D_1 1), x1, x11, x12, x12, (D 0), (D 1), x16, undef, x0, x19, x19, x21, x0, x23, x24, x19, x26, undef, x8, x1, x30, x31, (D_1 6), (D_1 7), (D_1 8), (D_1 9), (D_1 10), (D_1 11), (D_1 12), (D_1 13), (D_1 14), (D_1 15), (D_1 16), (D_1 17), (D_1 18), (D_1 19), (D_1 20), (D_1 21), (D_1 22), (D_1 23)] ++ [(D_1 24), (D_1 25), (D_1 26), (D_1 27), (D_1 28), (D_1 29), (D_1 30), (D_1 31), (D_1 32), (D_1 33), (D_1 34), (D_1 35), (D_1 36), (D_1 37), (D_1 38), (D_1 39), (D_1 40), (D_1 41), (D_1 42), (D_1 43), (D_1 44), (D_1 45), (D_1 46), (D_1 47), (D_1 48), (D_1 49), (D_1 50), (D_1 51), (D_1 52), (D_1 53), (D_1 54), (D_1 55), (D_1 56), (D_1 57), (D_1 58), (D_1 59), (D_1 60), (D_1 61), (D_1 62), (D_1 63), (D_1 64), (D_1 65), (D_1 66), (D_1 67), (D_1 68), (D_1 69), (D_1 70), (D_1 71), (D_1 72), (D_1 73)] ++ [(D_1 74), (D_1 75), (D_1 76), (D_1 77), (D_1 78), (D_1 79), (D_1 80), (D_1 81), (D_1 82), (D_1 83), (D_1 84), (D_1 85), (D_1 86), (D_1 87), (D_1 88), (D_1 89), (D_1 90), x117]).toArray, []⟩) (by kernel_rfl) ?_
              refine wp_ret ?_
              exact end1 (Tryd.results6) (by kernel_rfl) (by kernel_rfl) HA_22 H _ (.inr rfl)

end Go.Proofs.YtjlpgakoedigoaaDoor
