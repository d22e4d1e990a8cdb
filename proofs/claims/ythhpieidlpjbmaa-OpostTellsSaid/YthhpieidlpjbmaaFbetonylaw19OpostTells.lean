/- The shallow reading of one function, and that the function does it. Written by a program. -/
import Derived.Test.YthhpieidlpjbmaaFnC
set_option linter.unusedVariables false
namespace Go.Proofs.Ythhpieidlpjbmaa
open Go Go.HW

def betonylaw19_OpostTells_S (x0 x1 x2 : Value) (h : Heap) (R : Value → Heap → Prop) : Prop :=
  sLen x2 fun x14 =>
  sGt x14 (.int .i64 300) fun x15 =>
  sIf x15 (betonylaw19_awake_c  h fun x16 h => 
  R x16 h) (opost_Bytes_c x0 x1 x2 h fun x21 h_1 => 
  sTup x21 0 fun x22 =>
  sTup x21 1 fun x23 =>
  betonyref19_Bytes_c x0 x1 x2 h_1 fun x27 h_2 => 
  sNew h_2 #[.slice none 0 0, .int .i64 0] 60 fun x9 h_3 => 
  sStN h_3 x9 x27 2 fun h_4 => 
  sOff x9 0 fun x29 =>
  sLd h_4 x29 fun x30 =>
  betonyref01_Same_c x22 x30 h_4 fun x31 h_5 => 
  sNot x31 fun x32 =>
  sOr x32 (fun k_4 =>
  sOff x9 1 fun x35 =>
  sLd h_5 x35 fun x36 =>
  sNe x23 x36 fun x37 =>
  k_4 x37) fun x38 =>
  sOr x38 (fun k_3 =>
  sLt x23 (.int .i64 0) fun x41 =>
  k_3 x41) fun x42 =>
  sIf x42 (R (.bool false) h_5) (sLen x2 fun x44 =>
  sEq x44 (.int .i64 0) fun x45 =>
  sIf x45 (sLen x22 fun x47 =>
  sEq x47 (.int .i64 0) fun x48 =>
  sAndH x48 h_5 (fun k =>
  betonylaw19_awake_c  h_5 fun x50 h_7 => 
  k x50 h_7) fun x51 h_6 =>
  R x51 h_6) (sIxS x2 (.int .i64 0) 1 fun x56 =>
  sLd h_5 x56 fun x57 =>
  opost_Byte_c x0 x1 x57 h_5 fun x58 h_8 => 
  sTup x58 0 fun x59 =>
  sTup x58 1 fun x60 =>
  sSl x2 none (some (.int .i64 1)) 1 fun x64 =>
  betonyref19_Bytes_c x0 x1 x64 h_8 fun x65 h_9 => 
  sNew h_9 #[.slice none 0 0, .int .i64 0] 60 fun x12 h_10 => 
  sStN h_10 x12 x65 2 fun h_11 => 
  sOff x12 0 fun x67 =>
  sLd h_11 x67 fun x68 =>
  betonyref01_Same_c x59 x68 h_11 fun x69 h_12 => 
  sAnd x69 (fun k_2 =>
  sOff x12 1 fun x72 =>
  sLd h_12 x72 fun x73 =>
  sEq x60 x73 fun x74 =>
  k_2 x74) fun x75 =>
  sAndH x75 h_12 (fun k_1 =>
  betonylaw19_awake_c  h_12 fun x77 h_14 => 
  k_1 x77 h_14) fun x78 h_13 =>
  R x78 h_13)))
set_option maxRecDepth 100000 in
theorem betonylaw19_OpostTells_runs {x0 x1 x2 : Value} {h : Heap} {R : Value → Heap → Prop} (H : betonylaw19_OpostTells_S x0 x1 x2 h R) : betonylaw19_OpostTells_c x0 x1 x2 h R := by
  unfold betonylaw19_OpostTells_S at H
  refine runs_of (b := ⟨([x0, x1, x2, undef, undef, undef, undef, undef, undef, undef, undef, undef, undef, undef, undef, undef, undef, undef, undef, undef, undef, undef, undef, undef, undef, undef, undef, undef, undef, undef, undef, undef, undef, undef, undef, undef, undef, undef, undef, undef, undef, undef, undef, undef, undef, undef, undef, undef, undef, undef] ++ [undef, undef, undef, undef, undef, undef, undef, undef, undef, undef, undef, undef, undef, undef, undef, undef, undef, undef, undef, undef, undef, undef, undef, undef, undef, undef, undef, undef, undef]).toArray, []⟩) Try.call7 Try.func7 rfl (by kernel_rfl) (fun w0 HA => ?_)
  refine wp_seq ?_
  refine lwp_list ?_
  refine ls_assign (x := (.bool false)) (by kernel_rfl) (by kernel_rfl) ?_
  refine ls_nil ?_
  refine then_normal ?_
  refine fr_eq (b := ⟨([x0, x1, x2, undef, undef, undef, (.bool false), undef, undef, undef, undef, undef, undef, undef, undef, undef, undef, undef, undef, undef, undef, undef, undef, undef, undef, undef, undef, undef, undef, undef, undef, undef, undef, undef, undef, undef, undef, undef, undef, undef, undef, undef, undef, undef, undef, undef, undef, undef, undef, undef] ++ [undef, undef, undef, undef, undef, undef, undef, undef, undef, undef, undef, undef, undef, undef, undef, undef, undef, undef, undef, undef, undef, undef, undef, undef, undef, undef, undef, undef, undef]).toArray, []⟩) (by kernel_rfl) ?_
  refine wp_seq ?_
  refine wp_seq ?_
  refine lwp_list ?_
  refine ls_move (x := x2) (by kernel_rfl) (by kernel_rfl) ?_
  refine ls_p (d := some 14) (by kernel_rfl) (by kernel_rfl) (p_len Try.underlying56 (by kernel_rfl) H) (fun x14 H => ?_)
  refine ls_p (d := some 15) (by kernel_rfl) (by kernel_rfl) (p_sGt (by kernel_rfl) (by kernel_rfl) H) (fun x15 H => ?_)
  refine ls_nil ?_
  refine then_normal ?_
  refine fr_eq (b := ⟨([x0, x1, x2, undef, undef, undef, (.bool false), undef, undef, undef, undef, undef, undef, x2, x14, x15, undef, undef, undef, undef, undef, undef, undef, undef, undef, undef, undef, undef, undef, undef, undef, undef, undef, undef, undef, undef, undef, undef, undef, undef, undef, undef, undef, undef, undef, undef, undef, undef, undef, undef] ++ [undef, undef, undef, undef, undef, undef, undef, undef, undef, undef, undef, undef, undef, undef, undef, undef, undef, undef, undef, undef, undef, undef, undef, undef, undef, undef, undef, undef, undef]).toArray, []⟩) (by kernel_rfl) ?_
  refine wp_if rfl H (fun H => ?_) (fun H => ?_)
  · refine wp_seq ?_
    refine lwp_list ?_
    refine ls_d (d := some 16) (by kernel_rfl) (by kernel_rfl) HA (d_call (by kernel_rfl) (by kernel_rfl) H) (fun x16 h w H HA => ?_)
    refine ls_assign (x := x16) (by kernel_rfl) (by kernel_rfl) ?_
    refine ls_nil ?_
    refine then_normal ?_
    refine fr_eq (b := ⟨([x0, x1, x2, undef, undef, undef, x16, undef, undef, undef, undef, undef, undef, x2, x14, x15, x16, undef, undef, undef, undef, undef, undef, undef, undef, undef, undef, undef, undef, undef, undef, undef, undef, undef, undef, undef, undef, undef, undef, undef, undef, undef, undef, undef, undef, undef, undef, undef, undef, undef] ++ [undef, undef, undef, undef, undef, undef, undef, undef, undef, undef, undef, undef, undef, undef, undef, undef, undef, undef, undef, undef, undef, undef, undef, undef, undef, undef, undef, undef, undef]).toArray, []⟩) (by kernel_rfl) ?_
    refine wp_ret ?_
    refine then_ret ?_
    exact end1 (Try.results7) (by kernel_rfl) (by kernel_rfl) HA H _ (.inr rfl)
  · refine wp_skip ?_
    refine then_normal ?_
    refine fr_eq (b := ⟨([x0, x1, x2, undef, undef, undef, (.bool false), undef, undef, undef, undef, undef, undef, x2, x14, x15, undef, undef, undef, undef, undef, undef, undef, undef, undef, undef, undef, undef, undef, undef, undef, undef, undef, undef, undef, undef, undef, undef, undef, undef, undef, undef, undef, undef, undef, undef, undef, undef, undef, undef] ++ [undef, undef, undef, undef, undef, undef, undef, undef, undef, undef, undef, undef, undef, undef, undef, undef, undef, undef, undef, undef, undef, undef, undef, undef, undef, undef, undef, undef, undef]).toArray, []⟩) (by kernel_rfl) ?_
    refine wp_seq ?_
    refine lwp_list ?_
    refine ls_move (x := x0) (by kernel_rfl) (by kernel_rfl) ?_
    refine ls_move (x := x1) (by kernel_rfl) (by kernel_rfl) ?_
    refine ls_move (x := x2) (by kernel_rfl) (by kernel_rfl) ?_
    refine ls_d (d := some 21) (by kernel_rfl) (by kernel_rfl) HA (d_call (by kernel_rfl) (by kernel_rfl) H) (fun x21 h_1 w_1 H HA_1 => ?_)
    refine ls_move (x := x21) (by kernel_rfl) (by kernel_rfl) ?_
    refine ls_p (d := some 22) (by kernel_rfl) (by kernel_rfl) (p_tup (by kernel_rfl) H) (fun x22 H => ?_)
    refine ls_fr (b := ⟨([x0, x1, x2, undef, undef, undef, (.bool false), undef, undef, undef, undef, undef, undef, x2, x14, x15, undef, x21, x0, x1, x2, x21, x22, undef, undef, undef, undef, undef, undef, undef, undef, undef, undef, undef, undef, undef, undef, undef, undef, undef, undef, undef, undef, undef, undef, undef, undef, undef, undef, undef] ++ [undef, undef, undef, undef, undef, undef, undef, undef, undef, undef, undef, undef, undef, undef, undef, undef, undef, undef, undef, undef, undef, undef, undef, undef, undef, undef, undef, undef, undef]).toArray, []⟩) (by kernel_rfl) ?_
    refine ls_p (d := some 23) (by kernel_rfl) (by kernel_rfl) (p_tup (by kernel_rfl) H) (fun x23 H => ?_)
    refine ls_assign (x := x22) (by kernel_rfl) (by kernel_rfl) ?_
    refine ls_assign (x := x23) (by kernel_rfl) (by kernel_rfl) ?_
    refine ls_nil ?_
    refine then_normal ?_
    refine fr_eq (b := ⟨([x0, x1, x2, undef, undef, undef, (.bool false), x22, x23, undef, undef, undef, undef, x2, x14, x15, undef, x21, x0, x1, x2, x21, x22, x23, undef, undef, undef, undef, undef, undef, undef, undef, undef, undef, undef, undef, undef, undef, undef, undef, undef, undef, undef, undef, undef, undef, undef, undef, undef, undef] ++ [undef, undef, undef, undef, undef, undef, undef, undef, undef, undef, undef, undef, undef, undef, undef, undef, undef, undef, undef, undef, undef, undef, undef, undef, undef, undef, undef, undef, undef]).toArray, []⟩) (by kernel_rfl) ?_
    refine wp_seq ?_
    refine lwp_list ?_
    refine ls_move (x := x0) (by kernel_rfl) (by kernel_rfl) ?_
    refine ls_move (x := x1) (by kernel_rfl) (by kernel_rfl) ?_
    refine ls_move (x := x2) (by kernel_rfl) (by kernel_rfl) ?_
    refine ls_d (d := some 27) (by kernel_rfl) (by kernel_rfl) HA_1 (d_call (by kernel_rfl) (by kernel_rfl) H) (fun x27 h_2 w_2 H HA_2 => ?_)
    refine ls_d (d := some 9) (by kernel_rfl) (by kernel_rfl) HA_2 (d_alloc Try.zeroValue60 H) (fun x9 h_3 w_3 H HA_3 => ?_)
    refine ls_d (d := none) (by kernel_rfl) (by kernel_rfl) HA_3 (d_stn Try.sizeOf60 (by kernel_rfl) (by kernel_rfl) H) (fun _ h_4 w_4 H HA_4 => ?_)
    refine ls_nil ?_
    refine then_normal ?_
    refine fr_eq (b := ⟨([x0, x1, x2, undef, undef, undef, (.bool false), x22, x23, x9, undef, undef, undef, x2, x14, x15, undef, x21, x0, x1, x2, x21, x22, x23, x0, x1, x2, x27, undef, undef, undef, undef, undef, undef, undef, undef, undef, undef, undef, undef, undef, undef, undef, undef, undef, undef, undef, undef, undef, undef] ++ [undef, undef, undef, undef, undef, undef, undef, undef, undef, undef, undef, undef, undef, undef, undef, undef, undef, undef, undef, undef, undef, undef, undef, undef, undef, undef, undef, undef, undef]).toArray, []⟩) (by kernel_rfl) ?_
    refine wp_seq ?_
    refine wp_seq ?_
    refine lwp_list ?_
    refine ls_move (x := x22) (by kernel_rfl) (by kernel_rfl) ?_
    refine ls_p (d := some 29) (by kernel_rfl) (by kernel_rfl) (p_off Try.underlying60 rfl (fun w => ⟨_, Try.sizeOf56 w⟩) rfl (by kernel_rfl) H) (fun x29 H => ?_)
    refine ls_y (d := some 30) (by kernel_rfl) (by kernel_rfl) HA_4 (y_ld Try.isAgg56 (by kernel_rfl) H) (fun x30 H => ?_)
    refine ls_d (d := some 31) (by kernel_rfl) (by kernel_rfl) HA_4 (d_call (by kernel_rfl) (by kernel_rfl) H) (fun x31 h_5 w_5 H HA_5 => ?_)
    refine ls_p (d := some 32) (by kernel_rfl) (by kernel_rfl) (p_not (by kernel_rfl) H) (fun x32 H => ?_)
    refine ls_move (x := x32) (by kernel_rfl) (by kernel_rfl) ?_
    refine ls_fr (b := ⟨([x0, x1, x2, undef, undef, undef, (.bool false), x22, x23, x9, undef, undef, undef, x2, x14, x15, undef, x21, x0, x1, x2, x21, x22, x23, x0, x1, x2, x27, x22, x29, x30, x31, x32, x32, undef, undef, undef, undef, undef, undef, undef, undef, undef, undef, undef, undef, undef, undef, undef, undef] ++ [undef, undef, undef, undef, undef, undef, undef, undef, undef, undef, undef, undef, undef, undef, undef, undef, undef, undef, undef, undef, undef, undef, undef, undef, undef, undef, undef, undef, undef]).toArray, []⟩) (by kernel_rfl) ?_
    refine ls_or [(), (), (), (), ()] (fun K a w => ∃ (D : Nat → Value) (x38 : Value), a = ⟨([x0, x1, x2, undef, undef, undef, (.bool false), x22, x23, x9, undef, undef, undef, x2, x14, x15, undef, x21, x0, x1, x2, x21, x22, x23, x0, x1, x2, x27, x22, x29, x30, x31, x32, x32, (D 0), (D 1), (D 2), (D 3), x38, undef, undef, undef, undef, undef, undef, undef, undef, undef, undef, undef] ++ [undef, undef, undef, undef, undef, undef, undef, undef, undef, undef, undef, undef, undef, undef, undef, undef, undef, undef, undef, undef, undef, undef, undef, undef, undef, undef, undef, undef, undef]).toArray, []⟩ ∧ At w0 w h_5 ∧ K x38) H (fun hb_4 H => ?_) (fun hb_4 H => ?_) ?_
    · refine ls_move (x := x23) (by rw [hb_4]; kernel_rfl) (by kernel_rfl) ?_
      refine ls_p (d := some 35) (by kernel_rfl) (by rw [hb_4]; kernel_rfl) (p_off Try.underlying60 rfl (fun w => ⟨_, Try.sizeOf3 w⟩) rfl (by kernel_rfl) H) (fun x35 H => ?_)
      refine ls_y (d := some 36) (by kernel_rfl) (by rw [hb_4]; kernel_rfl) HA_5 (y_ld Try.isAgg3 (by kernel_rfl) H) (fun x36 H => ?_)
      refine ls_p (d := some 37) (by kernel_rfl) (by rw [hb_4]; kernel_rfl) (p_sNe (by kernel_rfl) (by kernel_rfl) H) (fun x37 H => ?_)
      refine ls_pick_f (y := x37) (by kernel_rfl) (by rw [hb_4]; kernel_rfl) (by kernel_rfl) ?_
      refine ls_nil ?_
      refine then_normal ?_
      exact ⟨(fun i => ([x23, x35, x36, x37]).getD i undef), x37, by kernel_rfl, HA_5, H⟩
    · refine ls_skip (d := some 34) (by kernel_rfl) (by rw [hb_4]; kernel_rfl) ?_
      refine ls_skip (d := some 35) (by kernel_rfl) (by rw [hb_4]; kernel_rfl) ?_
      refine ls_skip (d := some 36) (by kernel_rfl) (by rw [hb_4]; kernel_rfl) ?_
      refine ls_skip (d := some 37) (by kernel_rfl) (by rw [hb_4]; kernel_rfl) ?_
      refine ls_pick_t (x := (.bool true)) (by kernel_rfl) (by rw [hb_4]; kernel_rfl) (by kernel_rfl) ?_
      refine ls_nil ?_
      refine then_normal ?_
      exact ⟨(fun i => ([undef, undef, undef, undef]).getD i undef), (.bool true), by kernel_rfl, HA_5, H⟩
    · rintro _ w_6 ⟨D, x38, rfl, HA_6, H⟩
      refine ls_move (x := x38) (by kernel_rfl) (by kernel_rfl) ?_
      refine ls_or [(), (), ()] (fun K a w => ∃ (D_1 : Nat → Value) (x42 : Value), a = ⟨([x0, x1, x2, undef, undef, undef, (.bool false), x22, x23, x9, undef, undef, undef, x2, x14, x15, undef, x21, x0, x1, x2, x21, x22, x23, x0, x1, x2, x27, x22, x29, x30, x31, x32, x32, (D 0), (D 1), (D 2), (D 3), x38, x38, (D_1 0), (D_1 1), x42, undef, undef, undef, undef, undef, undef, undef] ++ [undef, undef, undef, undef, undef, undef, undef, undef, undef, undef, undef, undef, undef, undef, undef, undef, undef, undef, undef, undef, undef, undef, undef, undef, undef, undef, undef, undef, undef]).toArray, []⟩ ∧ At w0 w h_5 ∧ K x42) H (fun hb_3 H => ?_) (fun hb_3 H => ?_) ?_
      · refine ls_move (x := x23) (by rw [hb_3]; kernel_rfl) (by kernel_rfl) ?_
        refine ls_p (d := some 41) (by kernel_rfl) (by rw [hb_3]; kernel_rfl) (p_sLt (by kernel_rfl) (by kernel_rfl) H) (fun x41 H => ?_)
        refine ls_pick_f (y := x41) (by kernel_rfl) (by rw [hb_3]; kernel_rfl) (by kernel_rfl) ?_
        refine ls_nil ?_
        refine then_normal ?_
        exact ⟨(fun i => ([x23, x41]).getD i undef), x41, by kernel_rfl, HA_6, H⟩
      · refine ls_skip (d := some 40) (by kernel_rfl) (by rw [hb_3]; kernel_rfl) ?_
        refine ls_skip (d := some 41) (by kernel_rfl) (by rw [hb_3]; kernel_rfl) ?_
        refine ls_pick_t (x := (.bool true)) (by kernel_rfl) (by rw [hb_3]; kernel_rfl) (by kernel_rfl) ?_
        refine ls_nil ?_
        refine then_normal ?_
        exact ⟨(fun i => ([undef, undef]).getD i undef), (.bool true), by kernel_rfl, HA_6, H⟩
      · rintro _ w_7 ⟨D_1, x42, rfl, HA_7, H⟩
        refine ls_nil ?_
        refine then_normal ?_
        refine fr_eq (b := ⟨([x0, x1, x2, undef, undef, undef, (.bool false), x22, x23, x9, undef, undef, undef, x2, x14, x15, undef, x21, x0, x1, x2, x21, x22, x23, x0, x1, x2, x27, x22, x29, x30, x31, x32, x32, (D 0), (D 1), (D 2), (D 3), x38, x38, (D_1 0), (D_1 1), x42, undef, undef, undef, undef, undef, undef, undef] ++ [undef, undef, undef, undef, undef, undef, undef, undef, undef, undef, undef, undef, undef, undef, undef, undef, undef, undef, undef, undef, undef, undef, undef, undef, undef, undef, undef, undef, undef]).toArray, []⟩) (by kernel_rfl) ?_
        refine wp_if rfl H (fun H => ?_) (fun H => ?_)
        · refine wp_seq ?_
          refine lwp_list ?_
          refine ls_assign (x := (.bool false)) (by kernel_rfl) (by kernel_rfl) ?_
          refine ls_nil ?_
          refine then_normal ?_
          refine fr_eq (b := ⟨([x0, x1, x2, undef, undef, undef, (.bool false), x22, x23, x9, undef, undef, undef, x2, x14, x15, undef, x21, x0, x1, x2, x21, x22, x23, x0, x1, x2, x27, x22, x29, x30, x31, x32, x32, (D 0), (D 1), (D 2), (D 3), x38, x38, (D_1 0), (D_1 1), x42, undef, undef, undef, undef, undef, undef, undef] ++ [undef, undef, undef, undef, undef, undef, undef, undef, undef, undef, undef, undef, undef, undef, undef, undef, undef, undef, undef, undef, undef, undef, undef, undef, undef, undef, undef, undef, undef]).toArray, []⟩) (by kernel_rfl) ?_
          refine wp_ret ?_
          refine then_ret ?_
          exact end1 (Try.results7) (by kernel_rfl) (by kernel_rfl) HA_7 H _ (.inr rfl)
        · refine wp_skip ?_
          refine then_normal ?_
          refine fr_eq (b := ⟨([x0, x1, x2, undef, undef, undef, (.bool false), x22, x23, x9, undef, undef, undef, x2, x14, x15, undef, x21, x0, x1, x2, x21, x22, x23, x0, x1, x2, x27, x22, x29, x30, x31, x32, x32, (D 0), (D 1), (D 2), (D 3), x38, x38, (D_1 0), (D_1 1), x42, undef, undef, undef, undef, undef, undef, undef] ++ [undef, undef, undef, undef, undef, undef, undef, undef, undef, undef, undef, undef, undef, undef, undef, undef, undef, undef, undef, undef, undef, undef, undef, undef, undef, undef, undef, undef, undef]).toArray, []⟩) (by kernel_rfl) ?_
          refine wp_seq ?_
          refine wp_seq ?_
          refine lwp_list ?_
          refine ls_move (x := x2) (by kernel_rfl) (by kernel_rfl) ?_
          refine ls_p (d := some 44) (by kernel_rfl) (by kernel_rfl) (p_len Try.underlying56 (by kernel_rfl) H) (fun x44 H => ?_)
          refine ls_p (d := some 45) (by kernel_rfl) (by kernel_rfl) (p_sEq (by kernel_rfl) (by kernel_rfl) H) (fun x45 H => ?_)
          refine ls_nil ?_
          refine then_normal ?_
          refine fr_eq (b := ⟨([x0, x1, x2, undef, undef, undef, (.bool false), x22, x23, x9, undef, undef, undef, x2, x14, x15, undef, x21, x0, x1, x2, x21, x22, x23, x0, x1, x2, x27, x22, x29, x30, x31, x32, x32, (D 0), (D 1), (D 2), (D 3), x38, x38, (D_1 0), (D_1 1), x42, x2, x44, x45, undef, undef, undef, undef] ++ [undef, undef, undef, undef, undef, undef, undef, undef, undef, undef, undef, undef, undef, undef, undef, undef, undef, undef, undef, undef, undef, undef, undef, undef, undef, undef, undef, undef, undef]).toArray, []⟩) (by kernel_rfl) ?_
          refine wp_if rfl H (fun H => ?_) (fun H => ?_)
          · refine wp_seq ?_
            refine lwp_list ?_
            refine ls_move (x := x22) (by kernel_rfl) (by kernel_rfl) ?_
            refine ls_p (d := some 47) (by kernel_rfl) (by kernel_rfl) (p_len Try.underlying56 (by kernel_rfl) H) (fun x47 H => ?_)
            refine ls_p (d := some 48) (by kernel_rfl) (by kernel_rfl) (p_sEq (by kernel_rfl) (by kernel_rfl) H) (fun x48 H => ?_)
            refine ls_move (x := x48) (by kernel_rfl) (by kernel_rfl) ?_
            refine ls_andh [(), ()] (fun K a w => ∃ (D_2 : Nat → Value) (x51 : Value) (h_6 : Heap), a = ⟨([x0, x1, x2, undef, undef, undef, (.bool false), x22, x23, x9, undef, undef, undef, x2, x14, x15, undef, x21, x0, x1, x2, x21, x22, x23, x0, x1, x2, x27, x22, x29, x30, x31, x32, x32, (D 0), (D 1), (D 2), (D 3), x38, x38, (D_1 0), (D_1 1), x42, x2, x44, x45, x22, x47, x48, x48] ++ [(D_2 0), x51, undef, undef, undef, undef, undef, undef, undef, undef, undef, undef, undef, undef, undef, undef, undef, undef, undef, undef, undef, undef, undef, undef, undef, undef, undef, undef, undef]).toArray, []⟩ ∧ At w0 w h_6 ∧ K x51 h_6) H (fun hb H => ?_) (fun hb H => ?_) ?_
            · refine ls_d (d := some 50) (by kernel_rfl) (by rw [hb]; kernel_rfl) HA_7 (d_call (by kernel_rfl) (by kernel_rfl) H) (fun x50 h_7 w_9 H HA_9 => ?_)
              refine ls_pick_t (x := x50) (by kernel_rfl) (by rw [hb]; kernel_rfl) (by kernel_rfl) ?_
              refine ls_nil ?_
              refine then_normal ?_
              exact ⟨(fun i => ([x50]).getD i undef), x50, h_7, by kernel_rfl, HA_9, H⟩
            · refine ls_skip (d := some 50) (by kernel_rfl) (by rw [hb]; kernel_rfl) ?_
              refine ls_pick_f (y := (.bool false)) (by kernel_rfl) (by rw [hb]; kernel_rfl) (by kernel_rfl) ?_
              refine ls_nil ?_
              refine then_normal ?_
              exact ⟨(fun i => ([undef]).getD i undef), (.bool false), h_5, by kernel_rfl, HA_7, H⟩
            · rintro _ w_8 ⟨D_2, x51, h_6, rfl, HA_8, H⟩
              refine ls_assign (x := x51) (by kernel_rfl) (by kernel_rfl) ?_
              refine ls_nil ?_
              refine then_normal ?_
              refine fr_eq (b := ⟨([x0, x1, x2, undef, undef, undef, x51, x22, x23, x9, undef, undef, undef, x2, x14, x15, undef, x21, x0, x1, x2, x21, x22, x23, x0, x1, x2, x27, x22, x29, x30, x31, x32, x32, (D 0), (D 1), (D 2), (D 3), x38, x38, (D_1 0), (D_1 1), x42, x2, x44, x45, x22, x47, x48, x48] ++ [(D_2 0), x51, undef, undef, undef, undef, undef, undef, undef, undef, undef, undef, undef, undef, undef, undef, undef, undef, undef, undef, undef, undef, undef, undef, undef, undef, undef, undef, undef]).toArray, []⟩) (by kernel_rfl) ?_
              refine wp_ret ?_
              refine then_ret ?_
              exact end1 (Try.results7) (by kernel_rfl) (by kernel_rfl) HA_8 H _ (.inr rfl)
          · refine wp_skip ?_
            refine then_normal ?_
            refine fr_eq (b := ⟨([x0, x1, x2, undef, undef, undef, (.bool false), x22, x23, x9, undef, undef, undef, x2, x14, x15, undef, x21, x0, x1, x2, x21, x22, x23, x0, x1, x2, x27, x22, x29, x30, x31, x32, x32, (D 0), (D 1), (D 2), (D 3), x38, x38, (D_1 0), (D_1 1), x42, x2, x44, x45, undef, undef, undef, undef] ++ [undef, undef, undef, undef, undef, undef, undef, undef, undef, undef, undef, undef, undef, undef, undef, undef, undef, undef, undef, undef, undef, undef, undef, undef, undef, undef, undef, undef, undef]).toArray, []⟩) (by kernel_rfl) ?_
            refine wp_seq ?_
            refine lwp_list ?_
            refine ls_move (x := x0) (by kernel_rfl) (by kernel_rfl) ?_
            refine ls_move (x := x1) (by kernel_rfl) (by kernel_rfl) ?_
            refine ls_move (x := x2) (by kernel_rfl) (by kernel_rfl) ?_
            refine ls_p (d := some 56) (by kernel_rfl) (by kernel_rfl) (p_ixs Try.underlying56 Try.sizeOf5 (by kernel_rfl) (by kernel_rfl) H) (fun x56 H => ?_)
            refine ls_y (d := some 57) (by kernel_rfl) (by kernel_rfl) HA_7 (y_ld Try.isAgg5 (by kernel_rfl) H) (fun x57 H => ?_)
            refine ls_d (d := some 58) (by kernel_rfl) (by kernel_rfl) HA_7 (d_call (by kernel_rfl) (by kernel_rfl) H) (fun x58 h_8 w_10 H HA_10 => ?_)
            refine ls_fr (b := ⟨([x0, x1, x2, undef, undef, undef, (.bool false), x22, x23, x9, undef, undef, undef, x2, x14, x15, undef, x21, x0, x1, x2, x21, x22, x23, x0, x1, x2, x27, x22, x29, x30, x31, x32, x32, (D 0), (D 1), (D 2), (D 3), x38, x38, (D_1 0), (D_1 1), x42, x2, x44, x45, undef, undef, undef, undef] ++ [undef, undef, undef, x0, x1, x2, x56, x57, x58, undef, undef, undef, undef, undef, undef, undef, undef, undef, undef, undef, undef, undef, undef, undef, undef, undef, undef, undef, undef]).toArray, []⟩) (by kernel_rfl) ?_
            refine ls_move (x := x58) (by kernel_rfl) (by kernel_rfl) ?_
            refine ls_p (d := some 59) (by kernel_rfl) (by kernel_rfl) (p_tup (by kernel_rfl) H) (fun x59 H => ?_)
            refine ls_p (d := some 60) (by kernel_rfl) (by kernel_rfl) (p_tup (by kernel_rfl) H) (fun x60 H => ?_)
            refine ls_assign (x := x59) (by kernel_rfl) (by kernel_rfl) ?_
            refine ls_assign (x := x60) (by kernel_rfl) (by kernel_rfl) ?_
            refine ls_nil ?_
            refine then_normal ?_
            refine fr_eq (b := ⟨([x0, x1, x2, undef, undef, undef, (.bool false), x22, x23, x9, x59, x60, undef, x2, x14, x15, undef, x21, x0, x1, x2, x21, x22, x23, x0, x1, x2, x27, x22, x29, x30, x31, x32, x32, (D 0), (D 1), (D 2), (D 3), x38, x38, (D_1 0), (D_1 1), x42, x2, x44, x45, undef, undef, undef, undef] ++ [undef, undef, x58, x0, x1, x2, x56, x57, x58, x59, x60, undef, undef, undef, undef, undef, undef, undef, undef, undef, undef, undef, undef, undef, undef, undef, undef, undef, undef]).toArray, []⟩) (by kernel_rfl) ?_
            refine wp_seq ?_
            refine lwp_list ?_
            refine ls_move (x := x0) (by kernel_rfl) (by kernel_rfl) ?_
            refine ls_move (x := x1) (by kernel_rfl) (by kernel_rfl) ?_
            refine ls_move (x := x2) (by kernel_rfl) (by kernel_rfl) ?_
            refine ls_p (d := some 64) (by kernel_rfl) (by kernel_rfl) (p_sl Try.underlying56 Try.sizeOf5 (by kernel_rfl) (by kernel_rfl) (by kernel_rfl) H) (fun x64 H => ?_)
            refine ls_d (d := some 65) (by kernel_rfl) (by kernel_rfl) HA_10 (d_call (by kernel_rfl) (by kernel_rfl) H) (fun x65 h_9 w_11 H HA_11 => ?_)
            refine ls_d (d := some 12) (by kernel_rfl) (by kernel_rfl) HA_11 (d_alloc Try.zeroValue60 H) (fun x12 h_10 w_12 H HA_12 => ?_)
            refine ls_fr (b := ⟨([x0, x1, x2, undef, undef, undef, (.bool false), x22, x23, x9, x59, x60, x12, x2, x14, x15, undef, x21, x0, x1, x2, x21, x22, x23, x0, x1, x2, x27, x22, x29, x30, x31, x32, x32, (D 0), (D 1), (D 2), (D 3), x38, x38, (D_1 0), (D_1 1), x42, x2, x44, x45, undef, undef, undef, undef] ++ [undef, undef, x58, x0, x1, x2, x56, x57, x58, x59, x60, x0, x1, x2, x64, x65, undef, undef, undef, undef, undef, undef, undef, undef, undef, undef, undef, undef, undef]).toArray, []⟩) (by kernel_rfl) ?_
            refine ls_d (d := none) (by kernel_rfl) (by kernel_rfl) HA_12 (d_stn Try.sizeOf60 (by kernel_rfl) (by kernel_rfl) H) (fun _ h_11 w_13 H HA_13 => ?_)
            refine ls_nil ?_
            refine then_normal ?_
            refine fr_eq (b := ⟨([x0, x1, x2, undef, undef, undef, (.bool false), x22, x23, x9, x59, x60, x12, x2, x14, x15, undef, x21, x0, x1, x2, x21, x22, x23, x0, x1, x2, x27, x22, x29, x30, x31, x32, x32, (D 0), (D 1), (D 2), (D 3), x38, x38, (D_1 0), (D_1 1), x42, x2, x44, x45, undef, undef, undef, undef] ++ [undef, undef, x58, x0, x1, x2, x56, x57, x58, x59, x60, x0, x1, x2, x64, x65, undef, undef, undef, undef, undef, undef, undef, undef, undef, undef, undef, undef, undef]).toArray, []⟩) (by kernel_rfl) ?_
            refine wp_seq ?_
            refine lwp_list ?_
            refine ls_move (x := x59) (by kernel_rfl) (by kernel_rfl) ?_
            refine ls_p (d := some 67) (by kernel_rfl) (by kernel_rfl) (p_off Try.underlying60 rfl (fun w => ⟨_, Try.sizeOf56 w⟩) rfl (by kernel_rfl) H) (fun x67 H => ?_)
            refine ls_y (d := some 68) (by kernel_rfl) (by kernel_rfl) HA_13 (y_ld Try.isAgg56 (by kernel_rfl) H) (fun x68 H => ?_)
            refine ls_d (d := some 69) (by kernel_rfl) (by kernel_rfl) HA_13 (d_call (by kernel_rfl) (by kernel_rfl) H) (fun x69 h_12 w_14 H HA_14 => ?_)
            refine ls_move (x := x69) (by kernel_rfl) (by kernel_rfl) ?_
            refine ls_and [(), (), (), (), ()] (fun K a w => ∃ (D_3 : Nat → Value) (x75 : Value), a = ⟨([x0, x1, x2, undef, undef, undef, (.bool false), x22, x23, x9, x59, x60, x12, x2, x14, x15, undef, x21, x0, x1, x2, x21, x22, x23, x0, x1, x2, x27, x22, x29, x30, x31, x32, x32, (D 0), (D 1), (D 2), (D 3), x38, x38, (D_1 0), (D_1 1), x42, x2, x44, x45, undef, undef, undef, undef] ++ [undef, undef, x58, x0, x1, x2, x56, x57, x58, x59, x60, x0, x1, x2, x64, x65, x59, x67, x68, x69, x69, (D_3 0), (D_3 1), (D_3 2), (D_3 3), x75, undef, undef, undef]).toArray, []⟩ ∧ At w0 w h_12 ∧ K x75) H (fun hb_2 H => ?_) (fun hb_2 H => ?_) ?_
            · refine ls_move (x := x60) (by rw [hb_2]; kernel_rfl) (by kernel_rfl) ?_
              refine ls_fr (b := ⟨([x0, x1, x2, undef, undef, undef, (.bool false), x22, x23, x9, x59, x60, x12, x2, x14, x15, undef, x21, x0, x1, x2, x21, x22, x23, x0, x1, x2, x27, x22, x29, x30, x31, x32, x32, (D 0), (D 1), (D 2), (D 3), x38, x38, (D_1 0), (D_1 1), x42, x2, x44, x45, undef, undef, undef, undef] ++ [undef, undef, x58, x0, x1, x2, x56, x57, x58, x59, x60, x0, x1, x2, x64, x65, x59, x67, x68, x69, x69, x60, undef, undef, undef, undef, undef, undef, undef]).toArray, []⟩) (by kernel_rfl) ?_
              refine ls_p (d := some 72) (by kernel_rfl) (by rw [hb_2]; kernel_rfl) (p_off Try.underlying60 rfl (fun w => ⟨_, Try.sizeOf3 w⟩) rfl (by kernel_rfl) H) (fun x72 H => ?_)
              refine ls_y (d := some 73) (by kernel_rfl) (by rw [hb_2]; kernel_rfl) HA_14 (y_ld Try.isAgg3 (by kernel_rfl) H) (fun x73 H => ?_)
              refine ls_p (d := some 74) (by kernel_rfl) (by rw [hb_2]; kernel_rfl) (p_sEq (by kernel_rfl) (by kernel_rfl) H) (fun x74 H => ?_)
              refine ls_pick_t (x := x74) (by kernel_rfl) (by rw [hb_2]; kernel_rfl) (by kernel_rfl) ?_
              refine ls_nil ?_
              refine then_normal ?_
              exact ⟨(fun i => ([x60, x72, x73, x74]).getD i undef), x74, by kernel_rfl, HA_14, H⟩
            · refine ls_skip (d := some 71) (by kernel_rfl) (by rw [hb_2]; kernel_rfl) ?_
              refine ls_fr (b := ⟨([x0, x1, x2, undef, undef, undef, (.bool false), x22, x23, x9, x59, x60, x12, x2, x14, x15, undef, x21, x0, x1, x2, x21, x22, x23, x0, x1, x2, x27, x22, x29, x30, x31, x32, x32, (D 0), (D 1), (D 2), (D 3), x38, x38, (D_1 0), (D_1 1), x42, x2, x44, x45, undef, undef, undef, undef] ++ [undef, undef, x58, x0, x1, x2, x56, x57, x58, x59, x60, x0, x1, x2, x64, x65, x59, x67, x68, x69, x69, undef, undef, undef, undef, undef, undef, undef, undef]).toArray, []⟩) (by kernel_rfl) ?_
              refine ls_skip (d := some 72) (by kernel_rfl) (by rw [hb_2]; kernel_rfl) ?_
              refine ls_skip (d := some 73) (by kernel_rfl) (by rw [hb_2]; kernel_rfl) ?_
              refine ls_skip (d := some 74) (by kernel_rfl) (by rw [hb_2]; kernel_rfl) ?_
              refine ls_pick_f (y := (.bool false)) (by kernel_rfl) (by rw [hb_2]; kernel_rfl) (by kernel_rfl) ?_
              refine ls_nil ?_
              refine then_normal ?_
              exact ⟨(fun i => ([undef, undef, undef, undef]).getD i undef), (.bool false), by kernel_rfl, HA_14, H⟩
            · rintro _ w_15 ⟨D_3, x75, rfl, HA_15, H⟩
              refine ls_move (x := x75) (by kernel_rfl) (by kernel_rfl) ?_
              refine ls_andh [(), ()] (fun K a w => ∃ (D_4 : Nat → Value) (x78 : Value) (h_13 : Heap), a = ⟨([x0, x1, x2, undef, undef, undef, (.bool false), x22, x23, x9, x59, x60, x12, x2, x14, x15, undef, x21, x0, x1, x2, x21, x22, x23, x0, x1, x2, x27, x22, x29, x30, x31, x32, x32, (D 0), (D 1), (D 2), (D 3), x38, x38, (D_1 0), (D_1 1), x42, x2, x44, x45, undef, undef, undef, undef] ++ [undef, undef, x58, x0, x1, x2, x56, x57, x58, x59, x60, x0, x1, x2, x64, x65, x59, x67, x68, x69, x69, (D_3 0), (D_3 1), (D_3 2), (D_3 3), x75, x75, (D_4 0), x78]).toArray, []⟩ ∧ At w0 w h_13 ∧ K x78 h_13) H (fun hb_1 H => ?_) (fun hb_1 H => ?_) ?_
              · refine ls_d (d := some 77) (by kernel_rfl) (by rw [hb_1]; kernel_rfl) HA_15 (d_call (by kernel_rfl) (by kernel_rfl) H) (fun x77 h_14 w_17 H HA_17 => ?_)
                refine ls_pick_t (x := x77) (by kernel_rfl) (by rw [hb_1]; kernel_rfl) (by kernel_rfl) ?_
                refine ls_nil ?_
                refine then_normal ?_
                exact ⟨(fun i => ([x77]).getD i undef), x77, h_14, by kernel_rfl, HA_17, H⟩
              · refine ls_skip (d := some 77) (by kernel_rfl) (by rw [hb_1]; kernel_rfl) ?_
                refine ls_pick_f (y := (.bool false)) (by kernel_rfl) (by rw [hb_1]; kernel_rfl) (by kernel_rfl) ?_
                refine ls_nil ?_
                refine then_normal ?_
                exact ⟨(fun i => ([undef]).getD i undef), (.bool false), h_12, by kernel_rfl, HA_15, H⟩
              · rintro _ w_16 ⟨D_4, x78, h_13, rfl, HA_16, H⟩
                refine ls_assign (x := x78) (by kernel_rfl) (by kernel_rfl) ?_
                refine ls_nil ?_
                refine then_normal ?_
                refine fr_eq (b := ⟨([x0, x1, x2, undef, undef, undef, x78, x22, x23, x9, x59, x60, x12, x2, x14, x15, undef, x21, x0, x1, x2, x21, x22, x23, x0, x1, x2, x27, x22, x29, x30, x31, x32, x32, (D 0), (D 1), (D 2), (D 3), x38, x38, (D_1 0), (D_1 1), x42, x2, x44, x45, undef, undef, undef, undef] ++ [undef, undef, x58, x0, x1, x2, x56, x57, x58, x59, x60, x0, x1, x2, x64, x65, x59, x67, x68, x69, x69, (D_3 0), (D_3 1), (D_3 2), (D_3 3), x75, x75, (D_4 0), x78]).toArray, []⟩) (by kernel_rfl) ?_
                refine wp_ret ?_
                exact end1 (Try.results7) (by kernel_rfl) (by kernel_rfl) HA_16 H _ (.inr rfl)

end Go.Proofs.Ythhpieidlpjbmaa
