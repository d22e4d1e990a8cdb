/- The shallow reading of one function, and that the function does it. Written by a program. -/
import Derived.Test.YthhpieidlpjbmaaFnC
set_option linter.unusedVariables false
namespace Go.Proofs.Ythhpieidlpjbmaa
open Go Go.HW

def opost_post_j1 (R : Value → Heap → Prop) (x1_1 x2_1 : Value) (h : Heap) : Prop :=
  sSlit h #[.int .u8 0] [(0, 1, x2_1)] 5 1 fun x86 h_1 => 
  R (.tuple #[x86, x1_1]) h_1
def opost_post_j2 (R : Value → Heap → Prop) (x0 x1 x2_2 : Value) (h_2 : Heap) : Prop :=
  sBits .and .i64 x0 (.int .i64 2) fun x64 =>
  sNe x64 (.int .i64 0) fun x65 =>
  sIf x65 (sSlit h_2 #[.int .u8 0, .int .u8 0] [(0, 1, (.int .u8 13)), (1, 1, (.int .u8 10))] 5 2 fun x66 h_3 => 
  R (.tuple #[x66, (.int .i64 0)]) h_3) (sBits .and .i64 x0 (.int .i64 16) fun x68 =>
  sNe x68 (.int .i64 0) fun x69 =>
  sIf x69 (opost_post_j1 R (.int .i64 0) x2_2 h_2) (opost_post_j1 R x1 x2_2 h_2))
def opost_post_S (x0 x1 x2 : Value) (h : Heap) (R : Value → Heap → Prop) : Prop :=
  sEq x2 (.int .u8 13) fun x10 =>
  sAnd x10 (fun k_6 =>
  sBits .and .i64 x0 (.int .i64 4) fun x13 =>
  sNe x13 (.int .i64 0) fun x14 =>
  k_6 x14) fun x15 =>
  sIf x15 (opost_post_j2 R x0 x1 (.int .u8 10) h) (sEq x2 (.int .u8 10) fun x18 =>
  sIf x18 (opost_post_j2 R x0 x1 x2 h) (sEq x2 (.int .u8 13) fun x21 =>
  sAnd x21 (fun k_5 =>
  sEq x1 (.int .i64 0) fun x24 =>
  k_5 x24) fun x25 =>
  sAnd x25 (fun k_4 =>
  sBits .and .i64 x0 (.int .i64 8) fun x28 =>
  sNe x28 (.int .i64 0) fun x29 =>
  k_4 x29) fun x30 =>
  sIf x30 (R (.tuple #[(.slice none 0 0), (.int .i64 0)]) h) (sEq x2 (.int .u8 13) fun x33 =>
  sIf x33 (opost_post_j1 R (.int .i64 0) x2 h) (sEq x2 (.int .u8 9) fun x36 =>
  sAnd x36 (fun k_3 =>
  sBits .and .i64 x0 (.int .i64 32) fun x39 =>
  sNe x39 (.int .i64 0) fun x40 =>
  k_3 x40) fun x41 =>
  sIf x41 (sSlit h #[.int .u8 0] [(0, 1, (.int .u8 32))] 5 1 fun x70 h_4 => 
  opost_stop_c x1 h_4 fun x72 h_5 => 
  sSub .i64 x72 x1 fun x74 =>
  bytes_Repeat_c x70 x74 h_5 fun x75 h_6 => 
  opost_stop_c x1 h_6 fun x77 h_7 => 
  R (.tuple #[x75, x77]) h_7) (sEq x2 (.int .u8 9) fun x44 =>
  sIf x44 (opost_stop_c x1 h fun x79 h_8 => 
  opost_post_j1 R x79 x2 h_8) (sEq x2 (.int .u8 8) fun x47 =>
  sIf x47 (sSub .i64 x1 (.int .i64 1) fun x81 =>
  sMax x81 (.int .i64 0) fun x82 =>
  opost_post_j1 R x82 x2 h) (sLt x2 (.int .u8 32) fun x50 =>
  sOr x50 (fun k_2 =>
  sEq x2 (.int .u8 127) fun x53 =>
  k_2 x53) fun x54 =>
  sOr x54 (fun k =>
  sGe x2 (.int .u8 128) fun x57 =>
  sAnd x57 (fun k_1 =>
  sLt x2 (.int .u8 192) fun x60 =>
  k_1 x60) fun x61 =>
  k x61) fun x62 =>
  sIf x62 (opost_post_j1 R x1 x2 h) (sAdd .i64 x1 (.int .i64 1) fun x84 =>
  opost_post_j1 R x84 x2 h))))))))
set_option maxRecDepth 100000 in
theorem opost_post_runs {x0 x1 x2 : Value} {h : Heap} {R : Value → Heap → Prop} (H : opost_post_S x0 x1 x2 h R) : opost_post_c x0 x1 x2 h R := by
  unfold opost_post_S at H
  refine runs_of (b := ⟨([x0, x1, x2, undef, undef, undef, undef, undef, undef, undef, undef, undef, undef, undef, undef, undef, undef, undef, undef, undef, undef, undef, undef, undef, undef, undef, undef, undef, undef, undef, undef, undef, undef, undef, undef, undef, undef, undef, undef, undef, undef, undef, undef, undef, undef, undef, undef, undef, undef, undef] ++ [undef, undef, undef, undef, undef, undef, undef, undef, undef, undef, undef, undef, undef, undef, undef, undef, undef, undef, undef, undef, undef, undef, undef, undef, undef, undef, undef, undef, undef, undef, undef, undef, undef, undef, undef, undef, undef, undef]).toArray, []⟩) Try.call51 Try.func51 rfl (by kernel_rfl) (fun w0 HA => ?_)
  refine wp_seq ?_
  refine lwp_list ?_
  refine ls_assign (x := (.slice none 0 0)) (by kernel_rfl) (by kernel_rfl) ?_
  refine ls_assign (x := (.int .i64 0)) (by kernel_rfl) (by kernel_rfl) ?_
  refine ls_nil ?_
  refine then_normal ?_
  refine fr_eq (b := ⟨([x0, x1, x2, undef, undef, undef, (.slice none 0 0), (.int .i64 0), undef, undef, undef, undef, undef, undef, undef, undef, undef, undef, undef, undef, undef, undef, undef, undef, undef, undef, undef, undef, undef, undef, undef, undef, undef, undef, undef, undef, undef, undef, undef, undef, undef, undef, undef, undef, undef, undef, undef, undef, undef, undef] ++ [undef, undef, undef, undef, undef, undef, undef, undef, undef, undef, undef, undef, undef, undef, undef, undef, undef, undef, undef, undef, undef, undef, undef, undef, undef, undef, undef, undef, undef, undef, undef, undef, undef, undef, undef, undef, undef, undef]).toArray, []⟩) (by kernel_rfl) ?_
  refine wp_seq ?_
  refine wp_join (fun a w => ∃ (D : Nat → Value) (x1_1 x2_1 : Value) (h : Heap), a = ⟨([x0, x1_1, x2_1, undef, undef, undef, (D 0), (D 1), (D 2), (D 3), (D 4), (D 5), (D 6), (D 7), (D 8), (D 9), (D 10), (D 11), (D 12), (D 13), (D 14), (D 15), (D 16), (D 17), (D 18), (D 19), (D 20), (D 21), (D 22), (D 23), (D 24), (D 25), (D 26), (D 27), (D 28), (D 29), (D 30), (D 31), (D 32), (D 33), (D 34), (D 35), (D 36), (D 37), (D 38), (D 39), (D 40), (D 41), (D 42), (D 43)] ++ [(D 44), (D 45), (D 46), (D 47), (D 48), (D 49), (D 50), (D 51), (D 52), (D 53), (D 54), (D 55), (D 56), (D 57), (D 58), (D 59), (D 60), (D 61), (D 62), (D 63), (D 64), (D 65), (D 66), (D 67), (D 68), (D 69), (D 70), (D 71), (D 72), (D 73), (D 74), (D 75), (D 76), (D 77), (D 78), undef, undef, undef]).toArray, []⟩ ∧ At w0 w h ∧ opost_post_j1 R x1_1 x2_1 h) ?_ ?_
  · refine wp_block ?_
    refine wp_seq ?_
    refine wp_block ?_
    refine wp_seq ?_
    refine wp_block ?_
    refine wp_seq ?_
    refine wp_block ?_
    refine wp_seq ?_
    refine wp_block ?_
    refine wp_seq ?_
    refine wp_block ?_
    refine wp_seq ?_
    refine wp_block ?_
    refine wp_seq ?_
    refine wp_block ?_
    refine wp_seq ?_
    refine wp_join (fun a w => ∃ (D_1 : Nat → Value) (x2_2 : Value) (h_2 : Heap), a = ⟨([x0, x1, x2_2, undef, undef, undef, (.slice none 0 0), (.int .i64 0), (D_1 0), (D_1 1), (D_1 2), (D_1 3), (D_1 4), (D_1 5), (D_1 6), (D_1 7), (D_1 8), (D_1 9), (D_1 10), (D_1 11), (D_1 12), (D_1 13), (D_1 14), (D_1 15), (D_1 16), (D_1 17), (D_1 18), (D_1 19), (D_1 20), (D_1 21), (D_1 22), (D_1 23), (D_1 24), (D_1 25), (D_1 26), (D_1 27), (D_1 28), (D_1 29), (D_1 30), (D_1 31), (D_1 32), (D_1 33), (D_1 34), (D_1 35), (D_1 36), (D_1 37), (D_1 38), (D_1 39), (D_1 40), (D_1 41)] ++ [(D_1 42), (D_1 43), (D_1 44), (D_1 45), (D_1 46), (D_1 47), (D_1 48), (D_1 49), (D_1 50), (D_1 51), (D_1 52), (D_1 53), (D_1 54), undef, undef, undef, undef, undef, undef, undef, undef, undef, undef, undef, undef, undef, undef, undef, undef, undef, undef, undef, undef, undef, undef, undef, undef, undef]).toArray, []⟩ ∧ At w0 w h_2 ∧ opost_post_j2 R x0 x1 x2_2 h_2) ?_ ?_
    · refine wp_block ?_
      refine wp_seq ?_
      refine wp_block ?_
      refine wp_seq ?_
      refine wp_seq ?_
      refine wp_seq ?_
      refine lwp_list ?_
      refine ls_move (x := x2) (by kernel_rfl) (by kernel_rfl) ?_
      refine ls_p (d := some 10) (by kernel_rfl) (by kernel_rfl) (p_sEq (by kernel_rfl) (by kernel_rfl) H) (fun x10 H => ?_)
      refine ls_move (x := x10) (by kernel_rfl) (by kernel_rfl) ?_
      refine ls_and [(), (), (), ()] (fun K a w => ∃ (D_2 : Nat → Value) (x15 : Value), a = ⟨([x0, x1, x2, undef, undef, undef, (.slice none 0 0), (.int .i64 0), undef, x2, x10, x10, (D_2 0), (D_2 1), (D_2 2), x15, undef, undef, undef, undef, undef, undef, undef, undef, undef, undef, undef, undef, undef, undef, undef, undef, undef, undef, undef, undef, undef, undef, undef, undef, undef, undef, undef, undef, undef, undef, undef, undef, undef, undef] ++ [undef, undef, undef, undef, undef, undef, undef, undef, undef, undef, undef, undef, undef, undef, undef, undef, undef, undef, undef, undef, undef, undef, undef, undef, undef, undef, undef, undef, undef, undef, undef, undef, undef, undef, undef, undef, undef, undef]).toArray, []⟩ ∧ At w0 w h ∧ K x15) H (fun hb_6 H => ?_) (fun hb_6 H => ?_) ?_
      · refine ls_move (x := x0) (by rw [hb_6]; kernel_rfl) (by kernel_rfl) ?_
        refine ls_p (d := some 13) (by kernel_rfl) (by rw [hb_6]; kernel_rfl) (p_bits (by decide) (by kernel_rfl) (by kernel_rfl) H) (fun x13 H => ?_)
        refine ls_p (d := some 14) (by kernel_rfl) (by rw [hb_6]; kernel_rfl) (p_sNe (by kernel_rfl) (by kernel_rfl) H) (fun x14 H => ?_)
        refine ls_fr (b := ⟨([x0, x1, x2, undef, undef, undef, (.slice none 0 0), (.int .i64 0), undef, x2, x10, x10, x0, x13, x14, undef, undef, undef, undef, undef, undef, undef, undef, undef, undef, undef, undef, undef, undef, undef, undef, undef, undef, undef, undef, undef, undef, undef, undef, undef, undef, undef, undef, undef, undef, undef, undef, undef, undef, undef] ++ [undef, undef, undef, undef, undef, undef, undef, undef, undef, undef, undef, undef, undef, undef, undef, undef, undef, undef, undef, undef, undef, undef, undef, undef, undef, undef, undef, undef, undef, undef, undef, undef, undef, undef, undef, undef, undef, undef]).toArray, []⟩) (by kernel_rfl) ?_
        refine ls_pick_t (x := x14) (by kernel_rfl) (by rw [hb_6]; kernel_rfl) (by kernel_rfl) ?_
        refine ls_nil ?_
        refine then_normal ?_
        exact ⟨(fun i => ([x0, x13, x14]).getD i undef), x14, by kernel_rfl, HA, H⟩
      · refine ls_skip (d := some 12) (by kernel_rfl) (by rw [hb_6]; kernel_rfl) ?_
        refine ls_skip (d := some 13) (by kernel_rfl) (by rw [hb_6]; kernel_rfl) ?_
        refine ls_skip (d := some 14) (by kernel_rfl) (by rw [hb_6]; kernel_rfl) ?_
        refine ls_fr (b := ⟨([x0, x1, x2, undef, undef, undef, (.slice none 0 0), (.int .i64 0), undef, x2, x10, x10, undef, undef, undef, undef, undef, undef, undef, undef, undef, undef, undef, undef, undef, undef, undef, undef, undef, undef, undef, undef, undef, undef, undef, undef, undef, undef, undef, undef, undef, undef, undef, undef, undef, undef, undef, undef, undef, undef] ++ [undef, undef, undef, undef, undef, undef, undef, undef, undef, undef, undef, undef, undef, undef, undef, undef, undef, undef, undef, undef, undef, undef, undef, undef, undef, undef, undef, undef, undef, undef, undef, undef, undef, undef, undef, undef, undef, undef]).toArray, []⟩) (by kernel_rfl) ?_
        refine ls_pick_f (y := (.bool false)) (by kernel_rfl) (by rw [hb_6]; kernel_rfl) (by kernel_rfl) ?_
        refine ls_nil ?_
        refine then_normal ?_
        exact ⟨(fun i => ([undef, undef, undef]).getD i undef), (.bool false), by kernel_rfl, HA, H⟩
      · rintro _ w_4 ⟨D_2, x15, rfl, HA_4, H⟩
        refine ls_assign (x := x15) (by kernel_rfl) (by kernel_rfl) ?_
        refine ls_nil ?_
        refine then_normal ?_
        refine fr_eq (b := ⟨([x0, x1, x2, undef, undef, undef, (.slice none 0 0), (.int .i64 0), x15, x2, x10, x10, (D_2 0), (D_2 1), (D_2 2), x15, undef, undef, undef, undef, undef, undef, undef, undef, undef, undef, undef, undef, undef, undef, undef, undef, undef, undef, undef, undef, undef, undef, undef, undef, undef, undef, undef, undef, undef, undef, undef, undef, undef, undef] ++ [undef, undef, undef, undef, undef, undef, undef, undef, undef, undef, undef, undef, undef, undef, undef, undef, undef, undef, undef, undef, undef, undef, undef, undef, undef, undef, undef, undef, undef, undef, undef, undef, undef, undef, undef, undef, undef, undef]).toArray, []⟩) (by kernel_rfl) ?_
        refine wp_if rfl H (fun H => ?_) (fun H => ?_)
        · refine wp_exit ?_
          refine then_exit ?_
          refine then_exit ?_
          refine block_exit ?_
          refine then_normal ?_
          refine fr_eq (b := ⟨([x0, x1, x2, undef, undef, undef, (.slice none 0 0), (.int .i64 0), x15, x2, x10, x10, (D_2 0), (D_2 1), (D_2 2), x15, undef, undef, undef, undef, undef, undef, undef, undef, undef, undef, undef, undef, undef, undef, undef, undef, undef, undef, undef, undef, undef, undef, undef, undef, undef, undef, undef, undef, undef, undef, undef, undef, undef, undef] ++ [undef, undef, undef, undef, undef, undef, undef, undef, undef, undef, undef, undef, undef, undef, undef, undef, undef, undef, undef, undef, undef, undef, undef, undef, undef, undef, undef, undef, undef, undef, undef, undef, undef, undef, undef, undef, undef, undef]).toArray, []⟩) (by kernel_rfl) ?_
          refine lwp_list ?_
          refine ls_assign (x := (.int .u8 10)) (by kernel_rfl) (by kernel_rfl) ?_
          refine ls_nil ?_
          refine block_normal ?_
          exact ⟨(fun i => ([x15, x2, x10, x10, (D_2 0), (D_2 1), (D_2 2), x15, undef, undef, undef, undef, undef, undef, undef, undef, undef, undef, undef, undef, undef, undef, undef, undef, undef, undef, undef, undef, undef, undef, undef, undef, undef, undef, undef, undef, undef, undef, undef, undef, undef, undef, undef, undef, undef, undef, undef, undef, undef, undef] ++ [undef, undef, undef, undef, undef]).getD i undef), (.int .u8 10), h, by kernel_rfl, HA_4, H⟩
        · refine wp_skip ?_
          refine then_normal ?_
          refine fr_eq (b := ⟨([x0, x1, x2, undef, undef, undef, (.slice none 0 0), (.int .i64 0), x15, x2, x10, x10, (D_2 0), (D_2 1), (D_2 2), x15, undef, undef, undef, undef, undef, undef, undef, undef, undef, undef, undef, undef, undef, undef, undef, undef, undef, undef, undef, undef, undef, undef, undef, undef, undef, undef, undef, undef, undef, undef, undef, undef, undef, undef] ++ [undef, undef, undef, undef, undef, undef, undef, undef, undef, undef, undef, undef, undef, undef, undef, undef, undef, undef, undef, undef, undef, undef, undef, undef, undef, undef, undef, undef, undef, undef, undef, undef, undef, undef, undef, undef, undef, undef]).toArray, []⟩) (by kernel_rfl) ?_
          refine wp_seq ?_
          refine wp_seq ?_
          refine lwp_list ?_
          refine ls_move (x := x2) (by kernel_rfl) (by kernel_rfl) ?_
          refine ls_p (d := some 18) (by kernel_rfl) (by kernel_rfl) (p_sEq (by kernel_rfl) (by kernel_rfl) H) (fun x18 H => ?_)
          refine ls_assign (x := x18) (by kernel_rfl) (by kernel_rfl) ?_
          refine ls_nil ?_
          refine then_normal ?_
          refine fr_eq (b := ⟨([x0, x1, x2, undef, undef, undef, (.slice none 0 0), (.int .i64 0), x15, x2, x10, x10, (D_2 0), (D_2 1), (D_2 2), x15, x18, x2, x18, undef, undef, undef, undef, undef, undef, undef, undef, undef, undef, undef, undef, undef, undef, undef, undef, undef, undef, undef, undef, undef, undef, undef, undef, undef, undef, undef, undef, undef, undef, undef] ++ [undef, undef, undef, undef, undef, undef, undef, undef, undef, undef, undef, undef, undef, undef, undef, undef, undef, undef, undef, undef, undef, undef, undef, undef, undef, undef, undef, undef, undef, undef, undef, undef, undef, undef, undef, undef, undef, undef]).toArray, []⟩) (by kernel_rfl) ?_
          refine wp_if rfl H (fun H => ?_) (fun H => ?_)
          · refine wp_exit ?_
            refine then_exit ?_
            refine then_exit ?_
            refine block_other rfl ?_
            refine then_exit ?_
            refine block_exit ?_
            exact ⟨(fun i => ([x15, x2, x10, x10, (D_2 0), (D_2 1), (D_2 2), x15, x18, x2, x18, undef, undef, undef, undef, undef, undef, undef, undef, undef, undef, undef, undef, undef, undef, undef, undef, undef, undef, undef, undef, undef, undef, undef, undef, undef, undef, undef, undef, undef, undef, undef, undef, undef, undef, undef, undef, undef, undef, undef] ++ [undef, undef, undef, undef, undef]).getD i undef), x2, h, by kernel_rfl, HA_4, H⟩
          · refine wp_skip ?_
            refine then_normal ?_
            refine fr_eq (b := ⟨([x0, x1, x2, undef, undef, undef, (.slice none 0 0), (.int .i64 0), x15, x2, x10, x10, (D_2 0), (D_2 1), (D_2 2), x15, x18, x2, x18, undef, undef, undef, undef, undef, undef, undef, undef, undef, undef, undef, undef, undef, undef, undef, undef, undef, undef, undef, undef, undef, undef, undef, undef, undef, undef, undef, undef, undef, undef, undef] ++ [undef, undef, undef, undef, undef, undef, undef, undef, undef, undef, undef, undef, undef, undef, undef, undef, undef, undef, undef, undef, undef, undef, undef, undef, undef, undef, undef, undef, undef, undef, undef, undef, undef, undef, undef, undef, undef, undef]).toArray, []⟩) (by kernel_rfl) ?_
            refine wp_seq ?_
            refine wp_seq ?_
            refine lwp_list ?_
            refine ls_move (x := x2) (by kernel_rfl) (by kernel_rfl) ?_
            refine ls_p (d := some 21) (by kernel_rfl) (by kernel_rfl) (p_sEq (by kernel_rfl) (by kernel_rfl) H) (fun x21 H => ?_)
            refine ls_move (x := x21) (by kernel_rfl) (by kernel_rfl) ?_
            refine ls_and [(), (), ()] (fun K a w => ∃ (D_3 : Nat → Value) (x25 : Value), a = ⟨([x0, x1, x2, undef, undef, undef, (.slice none 0 0), (.int .i64 0), x15, x2, x10, x10, (D_2 0), (D_2 1), (D_2 2), x15, x18, x2, x18, undef, x2, x21, x21, (D_3 0), (D_3 1), x25, undef, undef, undef, undef, undef, undef, undef, undef, undef, undef, undef, undef, undef, undef, undef, undef, undef, undef, undef, undef, undef, undef, undef, undef] ++ [undef, undef, undef, undef, undef, undef, undef, undef, undef, undef, undef, undef, undef, undef, undef, undef, undef, undef, undef, undef, undef, undef, undef, undef, undef, undef, undef, undef, undef, undef, undef, undef, undef, undef, undef, undef, undef, undef]).toArray, []⟩ ∧ At w0 w h ∧ K x25) H (fun hb_5 H => ?_) (fun hb_5 H => ?_) ?_
            · refine ls_move (x := x1) (by rw [hb_5]; kernel_rfl) (by kernel_rfl) ?_
              refine ls_p (d := some 24) (by kernel_rfl) (by rw [hb_5]; kernel_rfl) (p_sEq (by kernel_rfl) (by kernel_rfl) H) (fun x24 H => ?_)
              refine ls_pick_t (x := x24) (by kernel_rfl) (by rw [hb_5]; kernel_rfl) (by kernel_rfl) ?_
              refine ls_nil ?_
              refine then_normal ?_
              exact ⟨(fun i => ([x1, x24]).getD i undef), x24, by kernel_rfl, HA_4, H⟩
            · refine ls_skip (d := some 23) (by kernel_rfl) (by rw [hb_5]; kernel_rfl) ?_
              refine ls_skip (d := some 24) (by kernel_rfl) (by rw [hb_5]; kernel_rfl) ?_
              refine ls_pick_f (y := (.bool false)) (by kernel_rfl) (by rw [hb_5]; kernel_rfl) (by kernel_rfl) ?_
              refine ls_nil ?_
              refine then_normal ?_
              exact ⟨(fun i => ([undef, undef]).getD i undef), (.bool false), by kernel_rfl, HA_4, H⟩
            · rintro _ w_5 ⟨D_3, x25, rfl, HA_5, H⟩
              refine ls_move (x := x25) (by kernel_rfl) (by kernel_rfl) ?_
              refine ls_and [(), (), (), ()] (fun K a w => ∃ (D_4 : Nat → Value) (x30 : Value), a = ⟨([x0, x1, x2, undef, undef, undef, (.slice none 0 0), (.int .i64 0), x15, x2, x10, x10, (D_2 0), (D_2 1), (D_2 2), x15, x18, x2, x18, undef, x2, x21, x21, (D_3 0), (D_3 1), x25, x25, (D_4 0), (D_4 1), (D_4 2), x30, undef, undef, undef, undef, undef, undef, undef, undef, undef, undef, undef, undef, undef, undef, undef, undef, undef, undef, undef] ++ [undef, undef, undef, undef, undef, undef, undef, undef, undef, undef, undef, undef, undef, undef, undef, undef, undef, undef, undef, undef, undef, undef, undef, undef, undef, undef, undef, undef, undef, undef, undef, undef, undef, undef, undef, undef, undef, undef]).toArray, []⟩ ∧ At w0 w h ∧ K x30) H (fun hb_4 H => ?_) (fun hb_4 H => ?_) ?_
              · refine ls_move (x := x0) (by rw [hb_4]; kernel_rfl) (by kernel_rfl) ?_
                refine ls_p (d := some 28) (by kernel_rfl) (by rw [hb_4]; kernel_rfl) (p_bits (by decide) (by kernel_rfl) (by kernel_rfl) H) (fun x28 H => ?_)
                refine ls_p (d := some 29) (by kernel_rfl) (by rw [hb_4]; kernel_rfl) (p_sNe (by kernel_rfl) (by kernel_rfl) H) (fun x29 H => ?_)
                refine ls_pick_t (x := x29) (by kernel_rfl) (by rw [hb_4]; kernel_rfl) (by kernel_rfl) ?_
                refine ls_nil ?_
                refine then_normal ?_
                exact ⟨(fun i => ([x0, x28, x29]).getD i undef), x29, by kernel_rfl, HA_5, H⟩
              · refine ls_skip (d := some 27) (by kernel_rfl) (by rw [hb_4]; kernel_rfl) ?_
                refine ls_skip (d := some 28) (by kernel_rfl) (by rw [hb_4]; kernel_rfl) ?_
                refine ls_skip (d := some 29) (by kernel_rfl) (by rw [hb_4]; kernel_rfl) ?_
                refine ls_pick_f (y := (.bool false)) (by kernel_rfl) (by rw [hb_4]; kernel_rfl) (by kernel_rfl) ?_
                refine ls_nil ?_
                refine then_normal ?_
                exact ⟨(fun i => ([undef, undef, undef]).getD i undef), (.bool false), by kernel_rfl, HA_5, H⟩
              · rintro _ w_6 ⟨D_4, x30, rfl, HA_6, H⟩
                refine ls_assign (x := x30) (by kernel_rfl) (by kernel_rfl) ?_
                refine ls_nil ?_
                refine then_normal ?_
                refine fr_eq (b := ⟨([x0, x1, x2, undef, undef, undef, (.slice none 0 0), (.int .i64 0), x15, x2, x10, x10, (D_2 0), (D_2 1), (D_2 2), x15, x18, x2, x18, x30, x2, x21, x21, (D_3 0), (D_3 1), x25, x25, (D_4 0), (D_4 1), (D_4 2), x30, undef, undef, undef, undef, undef, undef, undef, undef, undef, undef, undef, undef, undef, undef, undef, undef, undef, undef, undef] ++ [undef, undef, undef, undef, undef, undef, undef, undef, undef, undef, undef, undef, undef, undef, undef, undef, undef, undef, undef, undef, undef, undef, undef, undef, undef, undef, undef, undef, undef, undef, undef, undef, undef, undef, undef, undef, undef, undef]).toArray, []⟩) (by kernel_rfl) ?_
                refine wp_if rfl H (fun H => ?_) (fun H => ?_)
                · refine wp_exit ?_
                  refine then_exit ?_
                  refine then_exit ?_
                  refine block_other rfl ?_
                  refine then_exit ?_
                  refine block_other rfl ?_
                  refine then_exit ?_
                  refine then_exit ?_
                  refine block_exit ?_
                  refine then_normal ?_
                  refine fr_eq (b := ⟨([x0, x1, x2, undef, undef, undef, (.slice none 0 0), (.int .i64 0), x15, x2, x10, x10, (D_2 0), (D_2 1), (D_2 2), x15, x18, x2, x18, x30, x2, x21, x21, (D_3 0), (D_3 1), x25, x25, (D_4 0), (D_4 1), (D_4 2), x30, undef, undef, undef, undef, undef, undef, undef, undef, undef, undef, undef, undef, undef, undef, undef, undef, undef, undef, undef] ++ [undef, undef, undef, undef, undef, undef, undef, undef, undef, undef, undef, undef, undef, undef, undef, undef, undef, undef, undef, undef, undef, undef, undef, undef, undef, undef, undef, undef, undef, undef, undef, undef, undef, undef, undef, undef, undef, undef]).toArray, []⟩) (by kernel_rfl) ?_
                  refine wp_seq ?_
                  refine wp_seq ?_
                  refine lwp_list ?_
                  refine ls_assign (x := (.slice none 0 0)) (by kernel_rfl) (by kernel_rfl) ?_
                  refine ls_assign (x := (.int .i64 0)) (by kernel_rfl) (by kernel_rfl) ?_
                  refine ls_nil ?_
                  refine then_normal ?_
                  refine fr_eq (b := ⟨([x0, x1, x2, undef, undef, undef, (.slice none 0 0), (.int .i64 0), x15, x2, x10, x10, (D_2 0), (D_2 1), (D_2 2), x15, x18, x2, x18, x30, x2, x21, x21, (D_3 0), (D_3 1), x25, x25, (D_4 0), (D_4 1), (D_4 2), x30, undef, undef, undef, undef, undef, undef, undef, undef, undef, undef, undef, undef, undef, undef, undef, undef, undef, undef, undef] ++ [undef, undef, undef, undef, undef, undef, undef, undef, undef, undef, undef, undef, undef, undef, undef, undef, undef, undef, undef, undef, undef, undef, undef, undef, undef, undef, undef, undef, undef, undef, undef, undef, undef, undef, undef, undef, undef, undef]).toArray, []⟩) (by kernel_rfl) ?_
                  refine wp_ret ?_
                  refine then_ret ?_
                  refine block_ret ?_
                  refine then_ret ?_
                  refine block_ret ?_
                  refine then_ret ?_
                  refine block_ret ?_
                  refine then_ret ?_
                  refine block_ret ?_
                  refine then_ret ?_
                  refine block_ret ?_
                  refine then_ret ?_
                  refine block_ret ?_
                  refine then_ret ?_
                  refine block_ret ?_
                  refine then_ret ?_
                  refine then_ret ?_
                  exact end2 (Try.results51) (by kernel_rfl) (by kernel_rfl) (by kernel_rfl) HA_6 H _ (.inr rfl)
                · refine wp_skip ?_
                  refine then_normal ?_
                  refine fr_eq (b := ⟨([x0, x1, x2, undef, undef, undef, (.slice none 0 0), (.int .i64 0), x15, x2, x10, x10, (D_2 0), (D_2 1), (D_2 2), x15, x18, x2, x18, x30, x2, x21, x21, (D_3 0), (D_3 1), x25, x25, (D_4 0), (D_4 1), (D_4 2), x30, undef, undef, undef, undef, undef, undef, undef, undef, undef, undef, undef, undef, undef, undef, undef, undef, undef, undef, undef] ++ [undef, undef, undef, undef, undef, undef, undef, undef, undef, undef, undef, undef, undef, undef, undef, undef, undef, undef, undef, undef, undef, undef, undef, undef, undef, undef, undef, undef, undef, undef, undef, undef, undef, undef, undef, undef, undef, undef]).toArray, []⟩) (by kernel_rfl) ?_
                  refine wp_seq ?_
                  refine wp_seq ?_
                  refine lwp_list ?_
                  refine ls_move (x := x2) (by kernel_rfl) (by kernel_rfl) ?_
                  refine ls_p (d := some 33) (by kernel_rfl) (by kernel_rfl) (p_sEq (by kernel_rfl) (by kernel_rfl) H) (fun x33 H => ?_)
                  refine ls_assign (x := x33) (by kernel_rfl) (by kernel_rfl) ?_
                  refine ls_nil ?_
                  refine then_normal ?_
                  refine fr_eq (b := ⟨([x0, x1, x2, undef, undef, undef, (.slice none 0 0), (.int .i64 0), x15, x2, x10, x10, (D_2 0), (D_2 1), (D_2 2), x15, x18, x2, x18, x30, x2, x21, x21, (D_3 0), (D_3 1), x25, x25, (D_4 0), (D_4 1), (D_4 2), x30, x33, x2, x33, undef, undef, undef, undef, undef, undef, undef, undef, undef, undef, undef, undef, undef, undef, undef, undef] ++ [undef, undef, undef, undef, undef, undef, undef, undef, undef, undef, undef, undef, undef, undef, undef, undef, undef, undef, undef, undef, undef, undef, undef, undef, undef, undef, undef, undef, undef, undef, undef, undef, undef, undef, undef, undef, undef, undef]).toArray, []⟩) (by kernel_rfl) ?_
                  refine wp_if rfl H (fun H => ?_) (fun H => ?_)
                  · refine wp_exit ?_
                    refine then_exit ?_
                    refine then_exit ?_
                    refine block_other rfl ?_
                    refine then_exit ?_
                    refine block_other rfl ?_
                    refine then_exit ?_
                    refine then_exit ?_
                    refine block_other rfl ?_
                    refine then_exit ?_
                    refine block_exit ?_
                    refine then_normal ?_
                    refine fr_eq (b := ⟨([x0, x1, x2, undef, undef, undef, (.slice none 0 0), (.int .i64 0), x15, x2, x10, x10, (D_2 0), (D_2 1), (D_2 2), x15, x18, x2, x18, x30, x2, x21, x21, (D_3 0), (D_3 1), x25, x25, (D_4 0), (D_4 1), (D_4 2), x30, x33, x2, x33, undef, undef, undef, undef, undef, undef, undef, undef, undef, undef, undef, undef, undef, undef, undef, undef] ++ [undef, undef, undef, undef, undef, undef, undef, undef, undef, undef, undef, undef, undef, undef, undef, undef, undef, undef, undef, undef, undef, undef, undef, undef, undef, undef, undef, undef, undef, undef, undef, undef, undef, undef, undef, undef, undef, undef]).toArray, []⟩) (by kernel_rfl) ?_
                    refine wp_seq ?_
                    refine lwp_list ?_
                    refine ls_assign (x := (.int .i64 0)) (by kernel_rfl) (by kernel_rfl) ?_
                    refine ls_nil ?_
                    refine then_normal ?_
                    refine fr_eq (b := ⟨([x0, (.int .i64 0), x2, undef, undef, undef, (.slice none 0 0), (.int .i64 0), x15, x2, x10, x10, (D_2 0), (D_2 1), (D_2 2), x15, x18, x2, x18, x30, x2, x21, x21, (D_3 0), (D_3 1), x25, x25, (D_4 0), (D_4 1), (D_4 2), x30, x33, x2, x33, undef, undef, undef, undef, undef, undef, undef, undef, undef, undef, undef, undef, undef, undef, undef, undef] ++ [undef, undef, undef, undef, undef, undef, undef, undef, undef, undef, undef, undef, undef, undef, undef, undef, undef, undef, undef, undef, undef, undef, undef, undef, undef, undef, undef, undef, undef, undef, undef, undef, undef, undef, undef, undef, undef, undef]).toArray, []⟩) (by kernel_rfl) ?_
                    refine wp_exit ?_
                    refine block_other rfl ?_
                    refine then_exit ?_
                    refine block_other rfl ?_
                    refine then_exit ?_
                    refine block_other rfl ?_
                    refine then_exit ?_
                    refine block_other rfl ?_
                    refine then_exit ?_
                    refine block_other rfl ?_
                    refine then_exit ?_
                    refine block_exit ?_
                    exact ⟨(fun i => ([(.slice none 0 0), (.int .i64 0), x15, x2, x10, x10, (D_2 0), (D_2 1), (D_2 2), x15, x18, x2, x18, x30, x2, x21, x21, (D_3 0), (D_3 1), x25, x25, (D_4 0), (D_4 1), (D_4 2), x30, x33, x2, x33, undef, undef, undef, undef, undef, undef, undef, undef, undef, undef, undef, undef, undef, undef, undef, undef, undef, undef, undef, undef, undef, undef] ++ [undef, undef, undef, undef, undef, undef, undef, undef, undef, undef, undef, undef, undef, undef, undef, undef, undef, undef, undef, undef, undef, undef, undef, undef, undef, undef, undef, undef, undef]).getD i undef), (.int .i64 0), x2, h, by kernel_rfl, HA_6, H⟩
                  · refine wp_skip ?_
                    refine then_normal ?_
                    refine fr_eq (b := ⟨([x0, x1, x2, undef, undef, undef, (.slice none 0 0), (.int .i64 0), x15, x2, x10, x10, (D_2 0), (D_2 1), (D_2 2), x15, x18, x2, x18, x30, x2, x21, x21, (D_3 0), (D_3 1), x25, x25, (D_4 0), (D_4 1), (D_4 2), x30, x33, x2, x33, undef, undef, undef, undef, undef, undef, undef, undef, undef, undef, undef, undef, undef, undef, undef, undef] ++ [undef, undef, undef, undef, undef, undef, undef, undef, undef, undef, undef, undef, undef, undef, undef, undef, undef, undef, undef, undef, undef, undef, undef, undef, undef, undef, undef, undef, undef, undef, undef, undef, undef, undef, undef, undef, undef, undef]).toArray, []⟩) (by kernel_rfl) ?_
                    refine wp_seq ?_
                    refine wp_seq ?_
                    refine lwp_list ?_
                    refine ls_move (x := x2) (by kernel_rfl) (by kernel_rfl) ?_
                    refine ls_p (d := some 36) (by kernel_rfl) (by kernel_rfl) (p_sEq (by kernel_rfl) (by kernel_rfl) H) (fun x36 H => ?_)
                    refine ls_move (x := x36) (by kernel_rfl) (by kernel_rfl) ?_
                    refine ls_and [(), (), (), ()] (fun K a w => ∃ (D_5 : Nat → Value) (x41 : Value), a = ⟨([x0, x1, x2, undef, undef, undef, (.slice none 0 0), (.int .i64 0), x15, x2, x10, x10, (D_2 0), (D_2 1), (D_2 2), x15, x18, x2, x18, x30, x2, x21, x21, (D_3 0), (D_3 1), x25, x25, (D_4 0), (D_4 1), (D_4 2), x30, x33, x2, x33, undef, x2, x36, x36, (D_5 0), (D_5 1), (D_5 2), x41, undef, undef, undef, undef, undef, undef, undef, undef] ++ [undef, undef, undef, undef, undef, undef, undef, undef, undef, undef, undef, undef, undef, undef, undef, undef, undef, undef, undef, undef, undef, undef, undef, undef, undef, undef, undef, undef, undef, undef, undef, undef, undef, undef, undef, undef, undef, undef]).toArray, []⟩ ∧ At w0 w h ∧ K x41) H (fun hb_3 H => ?_) (fun hb_3 H => ?_) ?_
                    · refine ls_move (x := x0) (by rw [hb_3]; kernel_rfl) (by kernel_rfl) ?_
                      refine ls_p (d := some 39) (by kernel_rfl) (by rw [hb_3]; kernel_rfl) (p_bits (by decide) (by kernel_rfl) (by kernel_rfl) H) (fun x39 H => ?_)
                      refine ls_p (d := some 40) (by kernel_rfl) (by rw [hb_3]; kernel_rfl) (p_sNe (by kernel_rfl) (by kernel_rfl) H) (fun x40 H => ?_)
                      refine ls_fr (b := ⟨([x0, x1, x2, undef, undef, undef, (.slice none 0 0), (.int .i64 0), x15, x2, x10, x10, (D_2 0), (D_2 1), (D_2 2), x15, x18, x2, x18, x30, x2, x21, x21, (D_3 0), (D_3 1), x25, x25, (D_4 0), (D_4 1), (D_4 2), x30, x33, x2, x33, undef, x2, x36, x36, x0, x39, x40, undef, undef, undef, undef, undef, undef, undef, undef, undef] ++ [undef, undef, undef, undef, undef, undef, undef, undef, undef, undef, undef, undef, undef, undef, undef, undef, undef, undef, undef, undef, undef, undef, undef, undef, undef, undef, undef, undef, undef, undef, undef, undef, undef, undef, undef, undef, undef, undef]).toArray, []⟩) (by kernel_rfl) ?_
                      refine ls_pick_t (x := x40) (by kernel_rfl) (by rw [hb_3]; kernel_rfl) (by kernel_rfl) ?_
                      refine ls_nil ?_
                      refine then_normal ?_
                      exact ⟨(fun i => ([x0, x39, x40]).getD i undef), x40, by kernel_rfl, HA_6, H⟩
                    · refine ls_skip (d := some 38) (by kernel_rfl) (by rw [hb_3]; kernel_rfl) ?_
                      refine ls_skip (d := some 39) (by kernel_rfl) (by rw [hb_3]; kernel_rfl) ?_
                      refine ls_skip (d := some 40) (by kernel_rfl) (by rw [hb_3]; kernel_rfl) ?_
                      refine ls_fr (b := ⟨([x0, x1, x2, undef, undef, undef, (.slice none 0 0), (.int .i64 0), x15, x2, x10, x10, (D_2 0), (D_2 1), (D_2 2), x15, x18, x2, x18, x30, x2, x21, x21, (D_3 0), (D_3 1), x25, x25, (D_4 0), (D_4 1), (D_4 2), x30, x33, x2, x33, undef, x2, x36, x36, undef, undef, undef, undef, undef, undef, undef, undef, undef, undef, undef, undef] ++ [undef, undef, undef, undef, undef, undef, undef, undef, undef, undef, undef, undef, undef, undef, undef, undef, undef, undef, undef, undef, undef, undef, undef, undef, undef, undef, undef, undef, undef, undef, undef, undef, undef, undef, undef, undef, undef, undef]).toArray, []⟩) (by kernel_rfl) ?_
                      refine ls_pick_f (y := (.bool false)) (by kernel_rfl) (by rw [hb_3]; kernel_rfl) (by kernel_rfl) ?_
                      refine ls_nil ?_
                      refine then_normal ?_
                      exact ⟨(fun i => ([undef, undef, undef]).getD i undef), (.bool false), by kernel_rfl, HA_6, H⟩
                    · rintro _ w_7 ⟨D_5, x41, rfl, HA_7, H⟩
                      refine ls_assign (x := x41) (by kernel_rfl) (by kernel_rfl) ?_
                      refine ls_nil ?_
                      refine then_normal ?_
                      refine fr_eq (b := ⟨([x0, x1, x2, undef, undef, undef, (.slice none 0 0), (.int .i64 0), x15, x2, x10, x10, (D_2 0), (D_2 1), (D_2 2), x15, x18, x2, x18, x30, x2, x21, x21, (D_3 0), (D_3 1), x25, x25, (D_4 0), (D_4 1), (D_4 2), x30, x33, x2, x33, x41, x2, x36, x36, (D_5 0), (D_5 1), (D_5 2), x41, undef, undef, undef, undef, undef, undef, undef, undef] ++ [undef, undef, undef, undef, undef, undef, undef, undef, undef, undef, undef, undef, undef, undef, undef, undef, undef, undef, undef, undef, undef, undef, undef, undef, undef, undef, undef, undef, undef, undef, undef, undef, undef, undef, undef, undef, undef, undef]).toArray, []⟩) (by kernel_rfl) ?_
                      refine wp_if rfl H (fun H => ?_) (fun H => ?_)
                      · refine wp_exit ?_
                        refine then_exit ?_
                        refine then_exit ?_
                        refine block_other rfl ?_
                        refine then_exit ?_
                        refine block_other rfl ?_
                        refine then_exit ?_
                        refine then_exit ?_
                        refine block_other rfl ?_
                        refine then_exit ?_
                        refine block_other rfl ?_
                        refine then_exit ?_
                        refine block_exit ?_
                        refine then_normal ?_
                        refine fr_eq (b := ⟨([x0, x1, x2, undef, undef, undef, (.slice none 0 0), (.int .i64 0), x15, x2, x10, x10, (D_2 0), (D_2 1), (D_2 2), x15, x18, x2, x18, x30, x2, x21, x21, (D_3 0), (D_3 1), x25, x25, (D_4 0), (D_4 1), (D_4 2), x30, x33, x2, x33, x41, x2, x36, x36, (D_5 0), (D_5 1), (D_5 2), x41, undef, undef, undef, undef, undef, undef, undef, undef] ++ [undef, undef, undef, undef, undef, undef, undef, undef, undef, undef, undef, undef, undef, undef, undef, undef, undef, undef, undef, undef, undef, undef, undef, undef, undef, undef, undef, undef, undef, undef, undef, undef, undef, undef, undef, undef, undef, undef]).toArray, []⟩) (by kernel_rfl) ?_
                        refine wp_seq ?_
                        refine wp_seq ?_
                        refine lwp_list ?_
                        refine ls_d (d := some 70) (by kernel_rfl) (by kernel_rfl) HA_7 (d_slit (zc := #[.int .u8 0]) Try.underlying56 Try.sizeOf5 (by decide) (.inr ⟨by decide, _, Try.zeroValue5, (by kernel_rfl)⟩) (by kernel_rfl) (by kernel_rfl) H) (fun x70 h_4 w_8 H HA_8 => ?_)
                        refine ls_move (x := x1) (by kernel_rfl) (by kernel_rfl) ?_
                        refine ls_d (d := some 72) (by kernel_rfl) (by kernel_rfl) HA_8 (d_call (by kernel_rfl) (by kernel_rfl) H) (fun x72 h_5 w_9 H HA_9 => ?_)
                        refine ls_move (x := x1) (by kernel_rfl) (by kernel_rfl) ?_
                        refine ls_p (d := some 74) (by kernel_rfl) (by kernel_rfl) (p_sub (by kernel_rfl) (by kernel_rfl) H) (fun x74 H => ?_)
                        refine ls_d (d := some 75) (by kernel_rfl) (by kernel_rfl) HA_9 (d_call (by kernel_rfl) (by kernel_rfl) H) (fun x75 h_6 w_10 H HA_10 => ?_)
                        refine ls_fr (b := ⟨([x0, x1, x2, undef, undef, undef, (.slice none 0 0), (.int .i64 0), x15, x2, x10, x10, (D_2 0), (D_2 1), (D_2 2), x15, x18, x2, x18, x30, x2, x21, x21, (D_3 0), (D_3 1), x25, x25, (D_4 0), (D_4 1), (D_4 2), x30, x33, x2, x33, x41, x2, x36, x36, (D_5 0), (D_5 1), (D_5 2), x41, undef, undef, undef, undef, undef, undef, undef, undef] ++ [undef, undef, undef, undef, undef, undef, undef, undef, undef, undef, undef, undef, undef, undef, undef, undef, undef, undef, undef, undef, x70, x1, x72, x1, x74, x75, undef, undef, undef, undef, undef, undef, undef, undef, undef, undef, undef, undef]).toArray, []⟩) (by kernel_rfl) ?_
                        refine ls_move (x := x1) (by kernel_rfl) (by kernel_rfl) ?_
                        refine ls_d (d := some 77) (by kernel_rfl) (by kernel_rfl) HA_10 (d_call (by kernel_rfl) (by kernel_rfl) H) (fun x77 h_7 w_11 H HA_11 => ?_)
                        refine ls_assign (x := x75) (by kernel_rfl) (by kernel_rfl) ?_
                        refine ls_assign (x := x77) (by kernel_rfl) (by kernel_rfl) ?_
                        refine ls_nil ?_
                        refine then_normal ?_
                        refine fr_eq (b := ⟨([x0, x1, x2, undef, undef, undef, x75, x77, x15, x2, x10, x10, (D_2 0), (D_2 1), (D_2 2), x15, x18, x2, x18, x30, x2, x21, x21, (D_3 0), (D_3 1), x25, x25, (D_4 0), (D_4 1), (D_4 2), x30, x33, x2, x33, x41, x2, x36, x36, (D_5 0), (D_5 1), (D_5 2), x41, undef, undef, undef, undef, undef, undef, undef, undef] ++ [undef, undef, undef, undef, undef, undef, undef, undef, undef, undef, undef, undef, undef, undef, undef, undef, undef, undef, undef, undef, x70, x1, x72, x1, x74, x75, x1, x77, undef, undef, undef, undef, undef, undef, undef, undef, undef, undef]).toArray, []⟩) (by kernel_rfl) ?_
                        refine wp_ret ?_
                        refine then_ret ?_
                        refine block_ret ?_
                        refine then_ret ?_
                        refine block_ret ?_
                        refine then_ret ?_
                        refine block_ret ?_
                        refine then_ret ?_
                        refine block_ret ?_
                        refine then_ret ?_
                        refine block_ret ?_
                        refine then_ret ?_
                        refine then_ret ?_
                        exact end2 (Try.results51) (by kernel_rfl) (by kernel_rfl) (by kernel_rfl) HA_11 H _ (.inr rfl)
                      · refine wp_skip ?_
                        refine then_normal ?_
                        refine fr_eq (b := ⟨([x0, x1, x2, undef, undef, undef, (.slice none 0 0), (.int .i64 0), x15, x2, x10, x10, (D_2 0), (D_2 1), (D_2 2), x15, x18, x2, x18, x30, x2, x21, x21, (D_3 0), (D_3 1), x25, x25, (D_4 0), (D_4 1), (D_4 2), x30, x33, x2, x33, x41, x2, x36, x36, (D_5 0), (D_5 1), (D_5 2), x41, undef, undef, undef, undef, undef, undef, undef, undef] ++ [undef, undef, undef, undef, undef, undef, undef, undef, undef, undef, undef, undef, undef, undef, undef, undef, undef, undef, undef, undef, undef, undef, undef, undef, undef, undef, undef, undef, undef, undef, undef, undef, undef, undef, undef, undef, undef, undef]).toArray, []⟩) (by kernel_rfl) ?_
                        refine wp_seq ?_
                        refine wp_seq ?_
                        refine lwp_list ?_
                        refine ls_move (x := x2) (by kernel_rfl) (by kernel_rfl) ?_
                        refine ls_p (d := some 44) (by kernel_rfl) (by kernel_rfl) (p_sEq (by kernel_rfl) (by kernel_rfl) H) (fun x44 H => ?_)
                        refine ls_assign (x := x44) (by kernel_rfl) (by kernel_rfl) ?_
                        refine ls_nil ?_
                        refine then_normal ?_
                        refine fr_eq (b := ⟨([x0, x1, x2, undef, undef, undef, (.slice none 0 0), (.int .i64 0), x15, x2, x10, x10, (D_2 0), (D_2 1), (D_2 2), x15, x18, x2, x18, x30, x2, x21, x21, (D_3 0), (D_3 1), x25, x25, (D_4 0), (D_4 1), (D_4 2), x30, x33, x2, x33, x41, x2, x36, x36, (D_5 0), (D_5 1), (D_5 2), x41, x44, x2, x44, undef, undef, undef, undef, undef] ++ [undef, undef, undef, undef, undef, undef, undef, undef, undef, undef, undef, undef, undef, undef, undef, undef, undef, undef, undef, undef, undef, undef, undef, undef, undef, undef, undef, undef, undef, undef, undef, undef, undef, undef, undef, undef, undef, undef]).toArray, []⟩) (by kernel_rfl) ?_
                        refine wp_if rfl H (fun H => ?_) (fun H => ?_)
                        · refine wp_exit ?_
                          refine then_exit ?_
                          refine then_exit ?_
                          refine block_other rfl ?_
                          refine then_exit ?_
                          refine block_other rfl ?_
                          refine then_exit ?_
                          refine then_exit ?_
                          refine block_other rfl ?_
                          refine then_exit ?_
                          refine block_other rfl ?_
                          refine then_exit ?_
                          refine block_other rfl ?_
                          refine then_exit ?_
                          refine block_exit ?_
                          refine then_normal ?_
                          refine fr_eq (b := ⟨([x0, x1, x2, undef, undef, undef, (.slice none 0 0), (.int .i64 0), x15, x2, x10, x10, (D_2 0), (D_2 1), (D_2 2), x15, x18, x2, x18, x30, x2, x21, x21, (D_3 0), (D_3 1), x25, x25, (D_4 0), (D_4 1), (D_4 2), x30, x33, x2, x33, x41, x2, x36, x36, (D_5 0), (D_5 1), (D_5 2), x41, x44, x2, x44, undef, undef, undef, undef, undef] ++ [undef, undef, undef, undef, undef, undef, undef, undef, undef, undef, undef, undef, undef, undef, undef, undef, undef, undef, undef, undef, undef, undef, undef, undef, undef, undef, undef, undef, undef, undef, undef, undef, undef, undef, undef, undef, undef, undef]).toArray, []⟩) (by kernel_rfl) ?_
                          refine wp_seq ?_
                          refine lwp_list ?_
                          refine ls_move (x := x1) (by kernel_rfl) (by kernel_rfl) ?_
                          refine ls_d (d := some 79) (by kernel_rfl) (by kernel_rfl) HA_7 (d_call (by kernel_rfl) (by kernel_rfl) H) (fun x79 h_8 w_12 H HA_12 => ?_)
                          refine ls_assign (x := x79) (by kernel_rfl) (by kernel_rfl) ?_
                          refine ls_nil ?_
                          refine then_normal ?_
                          refine fr_eq (b := ⟨([x0, x79, x2, undef, undef, undef, (.slice none 0 0), (.int .i64 0), x15, x2, x10, x10, (D_2 0), (D_2 1), (D_2 2), x15, x18, x2, x18, x30, x2, x21, x21, (D_3 0), (D_3 1), x25, x25, (D_4 0), (D_4 1), (D_4 2), x30, x33, x2, x33, x41, x2, x36, x36, (D_5 0), (D_5 1), (D_5 2), x41, x44, x2, x44, undef, undef, undef, undef, undef] ++ [undef, undef, undef, undef, undef, undef, undef, undef, undef, undef, undef, undef, undef, undef, undef, undef, undef, undef, undef, undef, undef, undef, undef, undef, undef, undef, undef, undef, x1, x79, undef, undef, undef, undef, undef, undef, undef, undef]).toArray, []⟩) (by kernel_rfl) ?_
                          refine wp_exit ?_
                          refine block_other rfl ?_
                          refine then_exit ?_
                          refine block_other rfl ?_
                          refine then_exit ?_
                          refine block_other rfl ?_
                          refine then_exit ?_
                          refine block_exit ?_
                          exact ⟨(fun i => ([(.slice none 0 0), (.int .i64 0), x15, x2, x10, x10, (D_2 0), (D_2 1), (D_2 2), x15, x18, x2, x18, x30, x2, x21, x21, (D_3 0), (D_3 1), x25, x25, (D_4 0), (D_4 1), (D_4 2), x30, x33, x2, x33, x41, x2, x36, x36, (D_5 0), (D_5 1), (D_5 2), x41, x44, x2, x44, undef, undef, undef, undef, undef, undef, undef, undef, undef, undef, undef] ++ [undef, undef, undef, undef, undef, undef, undef, undef, undef, undef, undef, undef, undef, undef, undef, undef, undef, undef, undef, undef, undef, undef, x1, x79, undef, undef, undef, undef, undef]).getD i undef), x79, x2, h_8, by kernel_rfl, HA_12, H⟩
                        · refine wp_skip ?_
                          refine then_normal ?_
                          refine fr_eq (b := ⟨([x0, x1, x2, undef, undef, undef, (.slice none 0 0), (.int .i64 0), x15, x2, x10, x10, (D_2 0), (D_2 1), (D_2 2), x15, x18, x2, x18, x30, x2, x21, x21, (D_3 0), (D_3 1), x25, x25, (D_4 0), (D_4 1), (D_4 2), x30, x33, x2, x33, x41, x2, x36, x36, (D_5 0), (D_5 1), (D_5 2), x41, x44, x2, x44, undef, undef, undef, undef, undef] ++ [undef, undef, undef, undef, undef, undef, undef, undef, undef, undef, undef, undef, undef, undef, undef, undef, undef, undef, undef, undef, undef, undef, undef, undef, undef, undef, undef, undef, undef, undef, undef, undef, undef, undef, undef, undef, undef, undef]).toArray, []⟩) (by kernel_rfl) ?_
                          refine wp_seq ?_
                          refine wp_seq ?_
                          refine lwp_list ?_
                          refine ls_move (x := x2) (by kernel_rfl) (by kernel_rfl) ?_
                          refine ls_p (d := some 47) (by kernel_rfl) (by kernel_rfl) (p_sEq (by kernel_rfl) (by kernel_rfl) H) (fun x47 H => ?_)
                          refine ls_assign (x := x47) (by kernel_rfl) (by kernel_rfl) ?_
                          refine ls_nil ?_
                          refine then_normal ?_
                          refine fr_eq (b := ⟨([x0, x1, x2, undef, undef, undef, (.slice none 0 0), (.int .i64 0), x15, x2, x10, x10, (D_2 0), (D_2 1), (D_2 2), x15, x18, x2, x18, x30, x2, x21, x21, (D_3 0), (D_3 1), x25, x25, (D_4 0), (D_4 1), (D_4 2), x30, x33, x2, x33, x41, x2, x36, x36, (D_5 0), (D_5 1), (D_5 2), x41, x44, x2, x44, x47, x2, x47, undef, undef] ++ [undef, undef, undef, undef, undef, undef, undef, undef, undef, undef, undef, undef, undef, undef, undef, undef, undef, undef, undef, undef, undef, undef, undef, undef, undef, undef, undef, undef, undef, undef, undef, undef, undef, undef, undef, undef, undef, undef]).toArray, []⟩) (by kernel_rfl) ?_
                          refine wp_if rfl H (fun H => ?_) (fun H => ?_)
                          · refine wp_exit ?_
                            refine then_exit ?_
                            refine then_exit ?_
                            refine block_other rfl ?_
                            refine then_exit ?_
                            refine block_other rfl ?_
                            refine then_exit ?_
                            refine then_exit ?_
                            refine block_other rfl ?_
                            refine then_exit ?_
                            refine block_other rfl ?_
                            refine then_exit ?_
                            refine block_other rfl ?_
                            refine then_exit ?_
                            refine block_other rfl ?_
                            refine then_exit ?_
                            refine block_exit ?_
                            refine then_normal ?_
                            refine fr_eq (b := ⟨([x0, x1, x2, undef, undef, undef, (.slice none 0 0), (.int .i64 0), x15, x2, x10, x10, (D_2 0), (D_2 1), (D_2 2), x15, x18, x2, x18, x30, x2, x21, x21, (D_3 0), (D_3 1), x25, x25, (D_4 0), (D_4 1), (D_4 2), x30, x33, x2, x33, x41, x2, x36, x36, (D_5 0), (D_5 1), (D_5 2), x41, x44, x2, x44, x47, x2, x47, undef, undef] ++ [undef, undef, undef, undef, undef, undef, undef, undef, undef, undef, undef, undef, undef, undef, undef, undef, undef, undef, undef, undef, undef, undef, undef, undef, undef, undef, undef, undef, undef, undef, undef, undef, undef, undef, undef, undef, undef, undef]).toArray, []⟩) (by kernel_rfl) ?_
                            refine wp_seq ?_
                            refine lwp_list ?_
                            refine ls_move (x := x1) (by kernel_rfl) (by kernel_rfl) ?_
                            refine ls_p (d := some 81) (by kernel_rfl) (by kernel_rfl) (p_sub (by kernel_rfl) (by kernel_rfl) H) (fun x81 H => ?_)
                            refine ls_p (d := some 82) (by kernel_rfl) (by kernel_rfl) (p_max (by kernel_rfl) (by kernel_rfl) H) (fun x82 H => ?_)
                            refine ls_assign (x := x82) (by kernel_rfl) (by kernel_rfl) ?_
                            refine ls_nil ?_
                            refine then_normal ?_
                            refine fr_eq (b := ⟨([x0, x82, x2, undef, undef, undef, (.slice none 0 0), (.int .i64 0), x15, x2, x10, x10, (D_2 0), (D_2 1), (D_2 2), x15, x18, x2, x18, x30, x2, x21, x21, (D_3 0), (D_3 1), x25, x25, (D_4 0), (D_4 1), (D_4 2), x30, x33, x2, x33, x41, x2, x36, x36, (D_5 0), (D_5 1), (D_5 2), x41, x44, x2, x44, x47, x2, x47, undef, undef] ++ [undef, undef, undef, undef, undef, undef, undef, undef, undef, undef, undef, undef, undef, undef, undef, undef, undef, undef, undef, undef, undef, undef, undef, undef, undef, undef, undef, undef, undef, undef, x1, x81, x82, undef, undef, undef, undef, undef]).toArray, []⟩) (by kernel_rfl) ?_
                            refine wp_exit ?_
                            refine block_other rfl ?_
                            refine then_exit ?_
                            refine block_other rfl ?_
                            refine then_exit ?_
                            refine block_exit ?_
                            exact ⟨(fun i => ([(.slice none 0 0), (.int .i64 0), x15, x2, x10, x10, (D_2 0), (D_2 1), (D_2 2), x15, x18, x2, x18, x30, x2, x21, x21, (D_3 0), (D_3 1), x25, x25, (D_4 0), (D_4 1), (D_4 2), x30, x33, x2, x33, x41, x2, x36, x36, (D_5 0), (D_5 1), (D_5 2), x41, x44, x2, x44, x47, x2, x47, undef, undef, undef, undef, undef, undef, undef, undef] ++ [undef, undef, undef, undef, undef, undef, undef, undef, undef, undef, undef, undef, undef, undef, undef, undef, undef, undef, undef, undef, undef, undef, undef, undef, x1, x81, x82, undef, undef]).getD i undef), x82, x2, h, by kernel_rfl, HA_7, H⟩
                          · refine wp_skip ?_
                            refine then_normal ?_
                            refine fr_eq (b := ⟨([x0, x1, x2, undef, undef, undef, (.slice none 0 0), (.int .i64 0), x15, x2, x10, x10, (D_2 0), (D_2 1), (D_2 2), x15, x18, x2, x18, x30, x2, x21, x21, (D_3 0), (D_3 1), x25, x25, (D_4 0), (D_4 1), (D_4 2), x30, x33, x2, x33, x41, x2, x36, x36, (D_5 0), (D_5 1), (D_5 2), x41, x44, x2, x44, x47, x2, x47, undef, undef] ++ [undef, undef, undef, undef, undef, undef, undef, undef, undef, undef, undef, undef, undef, undef, undef, undef, undef, undef, undef, undef, undef, undef, undef, undef, undef, undef, undef, undef, undef, undef, undef, undef, undef, undef, undef, undef, undef, undef]).toArray, []⟩) (by kernel_rfl) ?_
                            refine wp_seq ?_
                            refine lwp_list ?_
                            refine ls_move (x := x2) (by kernel_rfl) (by kernel_rfl) ?_
                            refine ls_p (d := some 50) (by kernel_rfl) (by kernel_rfl) (p_sLt (by kernel_rfl) (by kernel_rfl) H) (fun x50 H => ?_)
                            refine ls_move (x := x50) (by kernel_rfl) (by kernel_rfl) ?_
                            refine ls_or [(), (), ()] (fun K a w => ∃ (D_6 : Nat → Value) (x54 : Value), a = ⟨([x0, x1, x2, undef, undef, undef, (.slice none 0 0), (.int .i64 0), x15, x2, x10, x10, (D_2 0), (D_2 1), (D_2 2), x15, x18, x2, x18, x30, x2, x21, x21, (D_3 0), (D_3 1), x25, x25, (D_4 0), (D_4 1), (D_4 2), x30, x33, x2, x33, x41, x2, x36, x36, (D_5 0), (D_5 1), (D_5 2), x41, x44, x2, x44, x47, x2, x47, undef, x2] ++ [x50, x50, (D_6 0), (D_6 1), x54, undef, undef, undef, undef, undef, undef, undef, undef, undef, undef, undef, undef, undef, undef, undef, undef, undef, undef, undef, undef, undef, undef, undef, undef, undef, undef, undef, undef, undef, undef, undef, undef, undef]).toArray, []⟩ ∧ At w0 w h ∧ K x54) H (fun hb_2 H => ?_) (fun hb_2 H => ?_) ?_
                            · refine ls_move (x := x2) (by rw [hb_2]; kernel_rfl) (by kernel_rfl) ?_
                              refine ls_p (d := some 53) (by kernel_rfl) (by rw [hb_2]; kernel_rfl) (p_sEq (by kernel_rfl) (by kernel_rfl) H) (fun x53 H => ?_)
                              refine ls_pick_f (y := x53) (by kernel_rfl) (by rw [hb_2]; kernel_rfl) (by kernel_rfl) ?_
                              refine ls_nil ?_
                              refine then_normal ?_
                              exact ⟨(fun i => ([x2, x53]).getD i undef), x53, by kernel_rfl, HA_7, H⟩
                            · refine ls_skip (d := some 52) (by kernel_rfl) (by rw [hb_2]; kernel_rfl) ?_
                              refine ls_skip (d := some 53) (by kernel_rfl) (by rw [hb_2]; kernel_rfl) ?_
                              refine ls_pick_t (x := (.bool true)) (by kernel_rfl) (by rw [hb_2]; kernel_rfl) (by kernel_rfl) ?_
                              refine ls_nil ?_
                              refine then_normal ?_
                              exact ⟨(fun i => ([undef, undef]).getD i undef), (.bool true), by kernel_rfl, HA_7, H⟩
                            · rintro _ w_13 ⟨D_6, x54, rfl, HA_13, H⟩
                              refine ls_move (x := x54) (by kernel_rfl) (by kernel_rfl) ?_
                              refine ls_or [(), (), (), (), (), (), ()] (fun K a w => ∃ (D_7 : Nat → Value) (x62 : Value), a = ⟨([x0, x1, x2, undef, undef, undef, (.slice none 0 0), (.int .i64 0), x15, x2, x10, x10, (D_2 0), (D_2 1), (D_2 2), x15, x18, x2, x18, x30, x2, x21, x21, (D_3 0), (D_3 1), x25, x25, (D_4 0), (D_4 1), (D_4 2), x30, x33, x2, x33, x41, x2, x36, x36, (D_5 0), (D_5 1), (D_5 2), x41, x44, x2, x44, x47, x2, x47, undef, x2] ++ [x50, x50, (D_6 0), (D_6 1), x54, x54, (D_7 0), (D_7 1), (D_7 2), (D_7 3), (D_7 4), (D_7 5), x62, undef, undef, undef, undef, undef, undef, undef, undef, undef, undef, undef, undef, undef, undef, undef, undef, undef, undef, undef, undef, undef, undef, undef, undef, undef]).toArray, []⟩ ∧ At w0 w h ∧ K x62) H (fun hb H => ?_) (fun hb H => ?_) ?_
                              · refine ls_move (x := x2) (by rw [hb]; kernel_rfl) (by kernel_rfl) ?_
                                refine ls_p (d := some 57) (by kernel_rfl) (by rw [hb]; kernel_rfl) (p_sGe (by kernel_rfl) (by kernel_rfl) H) (fun x57 H => ?_)
                                refine ls_move (x := x57) (by rw [hb]; kernel_rfl) (by kernel_rfl) ?_
                                refine ls_and [(), (), ()] (fun K a w => ∃ (D_8 : Nat → Value) (x61 : Value), a = ⟨([x0, x1, x2, undef, undef, undef, (.slice none 0 0), (.int .i64 0), x15, x2, x10, x10, (D_2 0), (D_2 1), (D_2 2), x15, x18, x2, x18, x30, x2, x21, x21, (D_3 0), (D_3 1), x25, x25, (D_4 0), (D_4 1), (D_4 2), x30, x33, x2, x33, x41, x2, x36, x36, (D_5 0), (D_5 1), (D_5 2), x41, x44, x2, x44, x47, x2, x47, undef, x2] ++ [x50, x50, (D_6 0), (D_6 1), x54, x54, x2, x57, x57, (D_8 0), (D_8 1), x61, undef, undef, undef, undef, undef, undef, undef, undef, undef, undef, undef, undef, undef, undef, undef, undef, undef, undef, undef, undef, undef, undef, undef, undef, undef, undef]).toArray, []⟩ ∧ At w0 w h ∧ K x61) H (fun hb_1 H => ?_) (fun hb_1 H => ?_) ?_
                                · refine ls_move (x := x2) (by rw [hb_1]; kernel_rfl) (by kernel_rfl) ?_
                                  refine ls_p (d := some 60) (by kernel_rfl) (by rw [hb_1]; kernel_rfl) (p_sLt (by kernel_rfl) (by kernel_rfl) H) (fun x60 H => ?_)
                                  refine ls_fr (b := ⟨([x0, x1, x2, undef, undef, undef, (.slice none 0 0), (.int .i64 0), x15, x2, x10, x10, (D_2 0), (D_2 1), (D_2 2), x15, x18, x2, x18, x30, x2, x21, x21, (D_3 0), (D_3 1), x25, x25, (D_4 0), (D_4 1), (D_4 2), x30, x33, x2, x33, x41, x2, x36, x36, (D_5 0), (D_5 1), (D_5 2), x41, x44, x2, x44, x47, x2, x47, undef, x2] ++ [x50, x50, (D_6 0), (D_6 1), x54, x54, x2, x57, x57, x2, x60, undef, undef, undef, undef, undef, undef, undef, undef, undef, undef, undef, undef, undef, undef, undef, undef, undef, undef, undef, undef, undef, undef, undef, undef, undef, undef, undef]).toArray, []⟩) (by kernel_rfl) ?_
                                  refine ls_pick_t (x := x60) (by rw [hb]; kernel_rfl) (by rw [hb_1]; kernel_rfl) (by kernel_rfl) ?_
                                  refine ls_nil ?_
                                  refine then_normal ?_
                                  exact ⟨(fun i => ([x2, x60]).getD i undef), x60, by kernel_rfl, HA_13, H⟩
                                · refine ls_skip (d := some 59) (by kernel_rfl) (by rw [hb_1]; kernel_rfl) ?_
                                  refine ls_skip (d := some 60) (by kernel_rfl) (by rw [hb_1]; kernel_rfl) ?_
                                  refine ls_fr (b := ⟨([x0, x1, x2, undef, undef, undef, (.slice none 0 0), (.int .i64 0), x15, x2, x10, x10, (D_2 0), (D_2 1), (D_2 2), x15, x18, x2, x18, x30, x2, x21, x21, (D_3 0), (D_3 1), x25, x25, (D_4 0), (D_4 1), (D_4 2), x30, x33, x2, x33, x41, x2, x36, x36, (D_5 0), (D_5 1), (D_5 2), x41, x44, x2, x44, x47, x2, x47, undef, x2] ++ [x50, x50, (D_6 0), (D_6 1), x54, x54, x2, x57, x57, undef, undef, undef, undef, undef, undef, undef, undef, undef, undef, undef, undef, undef, undef, undef, undef, undef, undef, undef, undef, undef, undef, undef, undef, undef, undef, undef, undef, undef]).toArray, []⟩) (by kernel_rfl) ?_
                                  refine ls_pick_f (y := (.bool false)) (by rw [hb]; kernel_rfl) (by rw [hb_1]; kernel_rfl) (by kernel_rfl) ?_
                                  refine ls_nil ?_
                                  refine then_normal ?_
                                  exact ⟨(fun i => ([undef, undef]).getD i undef), (.bool false), by kernel_rfl, HA_13, H⟩
                                · rintro _ w_15 ⟨D_8, x61, rfl, HA_15, H⟩
                                  refine ls_pick_f (y := x61) (by kernel_rfl) (by rw [hb]; kernel_rfl) (by kernel_rfl) ?_
                                  refine ls_nil ?_
                                  refine then_normal ?_
                                  exact ⟨(fun i => ([x2, x57, x57, (D_8 0), (D_8 1), x61]).getD i undef), x61, by kernel_rfl, HA_15, H⟩
                              · refine ls_skip (d := some 56) (by kernel_rfl) (by rw [hb]; kernel_rfl) ?_
                                refine ls_skip (d := some 57) (by kernel_rfl) (by rw [hb]; kernel_rfl) ?_
                                refine ls_skip (d := some 58) (by kernel_rfl) (by rw [hb]; kernel_rfl) ?_
                                refine ls_skip (d := some 59) (by kernel_rfl) (by kernel_rfl) ?_
                                refine ls_skip (d := some 60) (by kernel_rfl) (by kernel_rfl) ?_
                                refine ls_fr (b := ⟨([x0, x1, x2, undef, undef, undef, (.slice none 0 0), (.int .i64 0), x15, x2, x10, x10, (D_2 0), (D_2 1), (D_2 2), x15, x18, x2, x18, x30, x2, x21, x21, (D_3 0), (D_3 1), x25, x25, (D_4 0), (D_4 1), (D_4 2), x30, x33, x2, x33, x41, x2, x36, x36, (D_5 0), (D_5 1), (D_5 2), x41, x44, x2, x44, x47, x2, x47, undef, x2] ++ [x50, x50, (D_6 0), (D_6 1), x54, x54, undef, undef, undef, undef, undef, undef, undef, undef, undef, undef, undef, undef, undef, undef, undef, undef, undef, undef, undef, undef, undef, undef, undef, undef, undef, undef, undef, undef, undef, undef, undef, undef]).toArray, []⟩) (by kernel_rfl) ?_
                                refine ls_skip (d := some 61) (by kernel_rfl) (by rw [hb]; kernel_rfl) ?_
                                refine ls_pick_t (x := (.bool true)) (by kernel_rfl) (by rw [hb]; kernel_rfl) (by kernel_rfl) ?_
                                refine ls_nil ?_
                                refine then_normal ?_
                                exact ⟨(fun i => ([undef, undef, undef, undef, undef, undef]).getD i undef), (.bool true), by kernel_rfl, HA_13, H⟩
                              · rintro _ w_14 ⟨D_7, x62, rfl, HA_14, H⟩
                                refine ls_assign (x := x62) (by kernel_rfl) (by kernel_rfl) ?_
                                refine ls_nil ?_
                                refine then_normal ?_
                                refine fr_eq (b := ⟨([x0, x1, x2, undef, undef, undef, (.slice none 0 0), (.int .i64 0), x15, x2, x10, x10, (D_2 0), (D_2 1), (D_2 2), x15, x18, x2, x18, x30, x2, x21, x21, (D_3 0), (D_3 1), x25, x25, (D_4 0), (D_4 1), (D_4 2), x30, x33, x2, x33, x41, x2, x36, x36, (D_5 0), (D_5 1), (D_5 2), x41, x44, x2, x44, x47, x2, x47, x62, x2] ++ [x50, x50, (D_6 0), (D_6 1), x54, x54, (D_7 0), (D_7 1), (D_7 2), (D_7 3), (D_7 4), (D_7 5), x62, undef, undef, undef, undef, undef, undef, undef, undef, undef, undef, undef, undef, undef, undef, undef, undef, undef, undef, undef, undef, undef, undef, undef, undef, undef]).toArray, []⟩) (by kernel_rfl) ?_
                                refine wp_if rfl H (fun H => ?_) (fun H => ?_)
                                · refine wp_exit ?_
                                  refine then_exit ?_
                                  refine block_other rfl ?_
                                  refine then_exit ?_
                                  refine block_other rfl ?_
                                  refine then_exit ?_
                                  refine then_exit ?_
                                  refine block_other rfl ?_
                                  refine then_exit ?_
                                  refine block_other rfl ?_
                                  refine then_exit ?_
                                  refine block_other rfl ?_
                                  refine then_exit ?_
                                  refine block_other rfl ?_
                                  refine then_exit ?_
                                  refine block_other rfl ?_
                                  refine then_exit ?_
                                  refine block_exit ?_
                                  refine then_normal ?_
                                  refine fr_eq (b := ⟨([x0, x1, x2, undef, undef, undef, (.slice none 0 0), (.int .i64 0), x15, x2, x10, x10, (D_2 0), (D_2 1), (D_2 2), x15, x18, x2, x18, x30, x2, x21, x21, (D_3 0), (D_3 1), x25, x25, (D_4 0), (D_4 1), (D_4 2), x30, x33, x2, x33, x41, x2, x36, x36, (D_5 0), (D_5 1), (D_5 2), x41, x44, x2, x44, x47, x2, x47, x62, x2] ++ [x50, x50, (D_6 0), (D_6 1), x54, x54, (D_7 0), (D_7 1), (D_7 2), (D_7 3), (D_7 4), (D_7 5), x62, undef, undef, undef, undef, undef, undef, undef, undef, undef, undef, undef, undef, undef, undef, undef, undef, undef, undef, undef, undef, undef, undef, undef, undef, undef]).toArray, []⟩) (by kernel_rfl) ?_
                                  refine wp_exit ?_
                                  refine block_other rfl ?_
                                  refine then_exit ?_
                                  refine block_exit ?_
                                  exact ⟨(fun i => ([(.slice none 0 0), (.int .i64 0), x15, x2, x10, x10, (D_2 0), (D_2 1), (D_2 2), x15, x18, x2, x18, x30, x2, x21, x21, (D_3 0), (D_3 1), x25, x25, (D_4 0), (D_4 1), (D_4 2), x30, x33, x2, x33, x41, x2, x36, x36, (D_5 0), (D_5 1), (D_5 2), x41, x44, x2, x44, x47, x2, x47, x62, x2, x50, x50, (D_6 0), (D_6 1), x54, x54] ++ [(D_7 0), (D_7 1), (D_7 2), (D_7 3), (D_7 4), (D_7 5), x62, undef, undef, undef, undef, undef, undef, undef, undef, undef, undef, undef, undef, undef, undef, undef, undef, undef, undef, undef, undef, undef, undef]).getD i undef), x1, x2, h, by kernel_rfl, HA_14, H⟩
                                · refine wp_skip ?_
                                  refine then_normal ?_
                                  refine fr_eq (b := ⟨([x0, x1, x2, undef, undef, undef, (.slice none 0 0), (.int .i64 0), x15, x2, x10, x10, (D_2 0), (D_2 1), (D_2 2), x15, x18, x2, x18, x30, x2, x21, x21, (D_3 0), (D_3 1), x25, x25, (D_4 0), (D_4 1), (D_4 2), x30, x33, x2, x33, x41, x2, x36, x36, (D_5 0), (D_5 1), (D_5 2), x41, x44, x2, x44, x47, x2, x47, x62, x2] ++ [x50, x50, (D_6 0), (D_6 1), x54, x54, (D_7 0), (D_7 1), (D_7 2), (D_7 3), (D_7 4), (D_7 5), x62, undef, undef, undef, undef, undef, undef, undef, undef, undef, undef, undef, undef, undef, undef, undef, undef, undef, undef, undef, undef, undef, undef, undef, undef, undef]).toArray, []⟩) (by kernel_rfl) ?_
                                  refine wp_exit ?_
                                  refine block_other rfl ?_
                                  refine then_exit ?_
                                  refine block_other rfl ?_
                                  refine then_exit ?_
                                  refine then_exit ?_
                                  refine block_other rfl ?_
                                  refine then_exit ?_
                                  refine block_other rfl ?_
                                  refine then_exit ?_
                                  refine block_other rfl ?_
                                  refine then_exit ?_
                                  refine block_other rfl ?_
                                  refine then_exit ?_
                                  refine block_other rfl ?_
                                  refine then_exit ?_
                                  refine block_other rfl ?_
                                  refine then_exit ?_
                                  refine block_exit ?_
                                  refine then_normal ?_
                                  refine fr_eq (b := ⟨([x0, x1, x2, undef, undef, undef, (.slice none 0 0), (.int .i64 0), x15, x2, x10, x10, (D_2 0), (D_2 1), (D_2 2), x15, x18, x2, x18, x30, x2, x21, x21, (D_3 0), (D_3 1), x25, x25, (D_4 0), (D_4 1), (D_4 2), x30, x33, x2, x33, x41, x2, x36, x36, (D_5 0), (D_5 1), (D_5 2), x41, x44, x2, x44, x47, x2, x47, x62, x2] ++ [x50, x50, (D_6 0), (D_6 1), x54, x54, (D_7 0), (D_7 1), (D_7 2), (D_7 3), (D_7 4), (D_7 5), x62, undef, undef, undef, undef, undef, undef, undef, undef, undef, undef, undef, undef, undef, undef, undef, undef, undef, undef, undef, undef, undef, undef, undef, undef, undef]).toArray, []⟩) (by kernel_rfl) ?_
                                  refine wp_seq ?_
                                  refine lwp_list ?_
                                  refine ls_move (x := x1) (by kernel_rfl) (by kernel_rfl) ?_
                                  refine ls_p (d := some 84) (by kernel_rfl) (by kernel_rfl) (p_add (by kernel_rfl) (by kernel_rfl) H) (fun x84 H => ?_)
                                  refine ls_assign (x := x84) (by kernel_rfl) (by kernel_rfl) ?_
                                  refine ls_nil ?_
                                  refine then_normal ?_
                                  refine fr_eq (b := ⟨([x0, x84, x2, undef, undef, undef, (.slice none 0 0), (.int .i64 0), x15, x2, x10, x10, (D_2 0), (D_2 1), (D_2 2), x15, x18, x2, x18, x30, x2, x21, x21, (D_3 0), (D_3 1), x25, x25, (D_4 0), (D_4 1), (D_4 2), x30, x33, x2, x33, x41, x2, x36, x36, (D_5 0), (D_5 1), (D_5 2), x41, x44, x2, x44, x47, x2, x47, x62, x2] ++ [x50, x50, (D_6 0), (D_6 1), x54, x54, (D_7 0), (D_7 1), (D_7 2), (D_7 3), (D_7 4), (D_7 5), x62, undef, undef, undef, undef, undef, undef, undef, undef, undef, undef, undef, undef, undef, undef, undef, undef, undef, undef, undef, undef, x1, x84, undef, undef, undef]).toArray, []⟩) (by kernel_rfl) ?_
                                  refine wp_exit ?_
                                  refine block_exit ?_
                                  exact ⟨(fun i => ([(.slice none 0 0), (.int .i64 0), x15, x2, x10, x10, (D_2 0), (D_2 1), (D_2 2), x15, x18, x2, x18, x30, x2, x21, x21, (D_3 0), (D_3 1), x25, x25, (D_4 0), (D_4 1), (D_4 2), x30, x33, x2, x33, x41, x2, x36, x36, (D_5 0), (D_5 1), (D_5 2), x41, x44, x2, x44, x47, x2, x47, x62, x2, x50, x50, (D_6 0), (D_6 1), x54, x54] ++ [(D_7 0), (D_7 1), (D_7 2), (D_7 3), (D_7 4), (D_7 5), x62, undef, undef, undef, undef, undef, undef, undef, undef, undef, undef, undef, undef, undef, undef, undef, undef, undef, undef, undef, undef, x1, x84]).getD i undef), x84, x2, h, by kernel_rfl, HA_14, H⟩
    · rintro _ w_2 ⟨D_1, x2_2, h_2, rfl, HA_2, H⟩
      unfold opost_post_j2 at H
      refine then_normal ?_
      refine fr_eq (b := ⟨([x0, x1, x2_2, undef, undef, undef, (.slice none 0 0), (.int .i64 0), (D_1 0), (D_1 1), (D_1 2), (D_1 3), (D_1 4), (D_1 5), (D_1 6), (D_1 7), (D_1 8), (D_1 9), (D_1 10), (D_1 11), (D_1 12), (D_1 13), (D_1 14), (D_1 15), (D_1 16), (D_1 17), (D_1 18), (D_1 19), (D_1 20), (D_1 21), (D_1 22), (D_1 23), (D_1 24), (D_1 25), (D_1 26), (D_1 27), (D_1 28), (D_1 29), (D_1 30), (D_1 31), (D_1 32), (D_1 33), (D_1 34), (D_1 35), (D_1 36), (D_1 37), (D_1 38), (D_1 39), (D_1 40), (D_1 41)] ++ [(D_1 42), (D_1 43), (D_1 44), (D_1 45), (D_1 46), (D_1 47), (D_1 48), (D_1 49), (D_1 50), (D_1 51), (D_1 52), (D_1 53), (D_1 54), undef, undef, undef, undef, undef, undef, undef, undef, undef, undef, undef, undef, undef, undef, undef, undef, undef, undef, undef, undef, undef, undef, undef, undef, undef]).toArray, []⟩) (by kernel_rfl) ?_
      refine wp_seq ?_
      refine wp_seq ?_
      refine wp_seq ?_
      refine lwp_list ?_
      refine ls_move (x := x0) (by kernel_rfl) (by kernel_rfl) ?_
      refine ls_p (d := some 64) (by kernel_rfl) (by kernel_rfl) (p_bits (by decide) (by kernel_rfl) (by kernel_rfl) H) (fun x64 H => ?_)
      refine ls_p (d := some 65) (by kernel_rfl) (by kernel_rfl) (p_sNe (by kernel_rfl) (by kernel_rfl) H) (fun x65 H => ?_)
      refine ls_nil ?_
      refine then_normal ?_
      refine fr_eq (b := ⟨([x0, x1, x2_2, undef, undef, undef, (.slice none 0 0), (.int .i64 0), (D_1 0), (D_1 1), (D_1 2), (D_1 3), (D_1 4), (D_1 5), (D_1 6), (D_1 7), (D_1 8), (D_1 9), (D_1 10), (D_1 11), (D_1 12), (D_1 13), (D_1 14), (D_1 15), (D_1 16), (D_1 17), (D_1 18), (D_1 19), (D_1 20), (D_1 21), (D_1 22), (D_1 23), (D_1 24), (D_1 25), (D_1 26), (D_1 27), (D_1 28), (D_1 29), (D_1 30), (D_1 31), (D_1 32), (D_1 33), (D_1 34), (D_1 35), (D_1 36), (D_1 37), (D_1 38), (D_1 39), (D_1 40), (D_1 41)] ++ [(D_1 42), (D_1 43), (D_1 44), (D_1 45), (D_1 46), (D_1 47), (D_1 48), (D_1 49), (D_1 50), (D_1 51), (D_1 52), (D_1 53), (D_1 54), x0, x64, x65, undef, undef, undef, undef, undef, undef, undef, undef, undef, undef, undef, undef, undef, undef, undef, undef, undef, undef, undef, undef, undef, undef]).toArray, []⟩) (by kernel_rfl) ?_
      refine wp_if rfl H (fun H => ?_) (fun H => ?_)
      · refine wp_seq ?_
        refine lwp_list ?_
        refine ls_d (d := some 66) (by kernel_rfl) (by kernel_rfl) HA_2 (d_slit (zc := #[.int .u8 0]) Try.underlying56 Try.sizeOf5 (by decide) (.inr ⟨by decide, _, Try.zeroValue5, (by kernel_rfl)⟩) (by kernel_rfl) (by kernel_rfl) H) (fun x66 h_3 w_3 H HA_3 => ?_)
        refine ls_assign (x := x66) (by kernel_rfl) (by kernel_rfl) ?_
        refine ls_assign (x := (.int .i64 0)) (by kernel_rfl) (by kernel_rfl) ?_
        refine ls_nil ?_
        refine then_normal ?_
        refine fr_eq (b := ⟨([x0, x1, x2_2, undef, undef, undef, x66, (.int .i64 0), (D_1 0), (D_1 1), (D_1 2), (D_1 3), (D_1 4), (D_1 5), (D_1 6), (D_1 7), (D_1 8), (D_1 9), (D_1 10), (D_1 11), (D_1 12), (D_1 13), (D_1 14), (D_1 15), (D_1 16), (D_1 17), (D_1 18), (D_1 19), (D_1 20), (D_1 21), (D_1 22), (D_1 23), (D_1 24), (D_1 25), (D_1 26), (D_1 27), (D_1 28), (D_1 29), (D_1 30), (D_1 31), (D_1 32), (D_1 33), (D_1 34), (D_1 35), (D_1 36), (D_1 37), (D_1 38), (D_1 39), (D_1 40), (D_1 41)] ++ [(D_1 42), (D_1 43), (D_1 44), (D_1 45), (D_1 46), (D_1 47), (D_1 48), (D_1 49), (D_1 50), (D_1 51), (D_1 52), (D_1 53), (D_1 54), x0, x64, x65, x66, undef, undef, undef, undef, undef, undef, undef, undef, undef, undef, undef, undef, undef, undef, undef, undef, undef, undef, undef, undef, undef]).toArray, []⟩) (by kernel_rfl) ?_
        refine wp_ret ?_
        refine then_ret ?_
        refine then_ret ?_
        refine block_ret ?_
        refine then_ret ?_
        refine block_ret ?_
        refine then_ret ?_
        refine block_ret ?_
        refine then_ret ?_
        refine block_ret ?_
        refine then_ret ?_
        refine block_ret ?_
        refine then_ret ?_
        refine block_ret ?_
        refine then_ret ?_
        refine block_ret ?_
        refine then_ret ?_
        refine block_ret ?_
        refine then_ret ?_
        refine then_ret ?_
        exact end2 (Try.results51) (by kernel_rfl) (by kernel_rfl) (by kernel_rfl) HA_3 H _ (.inr rfl)
      · refine wp_skip ?_
        refine then_normal ?_
        refine fr_eq (b := ⟨([x0, x1, x2_2, undef, undef, undef, (.slice none 0 0), (.int .i64 0), (D_1 0), (D_1 1), (D_1 2), (D_1 3), (D_1 4), (D_1 5), (D_1 6), (D_1 7), (D_1 8), (D_1 9), (D_1 10), (D_1 11), (D_1 12), (D_1 13), (D_1 14), (D_1 15), (D_1 16), (D_1 17), (D_1 18), (D_1 19), (D_1 20), (D_1 21), (D_1 22), (D_1 23), (D_1 24), (D_1 25), (D_1 26), (D_1 27), (D_1 28), (D_1 29), (D_1 30), (D_1 31), (D_1 32), (D_1 33), (D_1 34), (D_1 35), (D_1 36), (D_1 37), (D_1 38), (D_1 39), (D_1 40), (D_1 41)] ++ [(D_1 42), (D_1 43), (D_1 44), (D_1 45), (D_1 46), (D_1 47), (D_1 48), (D_1 49), (D_1 50), (D_1 51), (D_1 52), (D_1 53), (D_1 54), x0, x64, x65, undef, undef, undef, undef, undef, undef, undef, undef, undef, undef, undef, undef, undef, undef, undef, undef, undef, undef, undef, undef, undef, undef]).toArray, []⟩) (by kernel_rfl) ?_
        refine wp_seq ?_
        refine lwp_list ?_
        refine ls_move (x := x0) (by kernel_rfl) (by kernel_rfl) ?_
        refine ls_p (d := some 68) (by kernel_rfl) (by kernel_rfl) (p_bits (by decide) (by kernel_rfl) (by kernel_rfl) H) (fun x68 H => ?_)
        refine ls_p (d := some 69) (by kernel_rfl) (by kernel_rfl) (p_sNe (by kernel_rfl) (by kernel_rfl) H) (fun x69 H => ?_)
        refine ls_nil ?_
        refine then_normal ?_
        refine fr_eq (b := ⟨([x0, x1, x2_2, undef, undef, undef, (.slice none 0 0), (.int .i64 0), (D_1 0), (D_1 1), (D_1 2), (D_1 3), (D_1 4), (D_1 5), (D_1 6), (D_1 7), (D_1 8), (D_1 9), (D_1 10), (D_1 11), (D_1 12), (D_1 13), (D_1 14), (D_1 15), (D_1 16), (D_1 17), (D_1 18), (D_1 19), (D_1 20), (D_1 21), (D_1 22), (D_1 23), (D_1 24), (D_1 25), (D_1 26), (D_1 27), (D_1 28), (D_1 29), (D_1 30), (D_1 31), (D_1 32), (D_1 33), (D_1 34), (D_1 35), (D_1 36), (D_1 37), (D_1 38), (D_1 39), (D_1 40), (D_1 41)] ++ [(D_1 42), (D_1 43), (D_1 44), (D_1 45), (D_1 46), (D_1 47), (D_1 48), (D_1 49), (D_1 50), (D_1 51), (D_1 52), (D_1 53), (D_1 54), x0, x64, x65, undef, x0, x68, x69, undef, undef, undef, undef, undef, undef, undef, undef, undef, undef, undef, undef, undef, undef, undef, undef, undef, undef]).toArray, []⟩) (by kernel_rfl) ?_
        refine wp_if rfl H (fun H => ?_) (fun H => ?_)
        · refine lwp_list ?_
          refine ls_assign (x := (.int .i64 0)) (by kernel_rfl) (by kernel_rfl) ?_
          refine ls_nil ?_
          refine then_normal ?_
          refine fr_eq (b := ⟨([x0, (.int .i64 0), x2_2, undef, undef, undef, (.slice none 0 0), (.int .i64 0), (D_1 0), (D_1 1), (D_1 2), (D_1 3), (D_1 4), (D_1 5), (D_1 6), (D_1 7), (D_1 8), (D_1 9), (D_1 10), (D_1 11), (D_1 12), (D_1 13), (D_1 14), (D_1 15), (D_1 16), (D_1 17), (D_1 18), (D_1 19), (D_1 20), (D_1 21), (D_1 22), (D_1 23), (D_1 24), (D_1 25), (D_1 26), (D_1 27), (D_1 28), (D_1 29), (D_1 30), (D_1 31), (D_1 32), (D_1 33), (D_1 34), (D_1 35), (D_1 36), (D_1 37), (D_1 38), (D_1 39), (D_1 40), (D_1 41)] ++ [(D_1 42), (D_1 43), (D_1 44), (D_1 45), (D_1 46), (D_1 47), (D_1 48), (D_1 49), (D_1 50), (D_1 51), (D_1 52), (D_1 53), (D_1 54), x0, x64, x65, undef, x0, x68, x69, undef, undef, undef, undef, undef, undef, undef, undef, undef, undef, undef, undef, undef, undef, undef, undef, undef, undef]).toArray, []⟩) (by kernel_rfl) ?_
          refine wp_exit ?_
          refine block_other rfl ?_
          refine then_exit ?_
          refine block_other rfl ?_
          refine then_exit ?_
          refine block_other rfl ?_
          refine then_exit ?_
          refine block_other rfl ?_
          refine then_exit ?_
          refine block_other rfl ?_
          refine then_exit ?_
          refine block_other rfl ?_
          refine then_exit ?_
          refine block_other rfl ?_
          refine then_exit ?_
          refine block_exit ?_
          exact ⟨(fun i => ([(.slice none 0 0), (.int .i64 0), (D_1 0), (D_1 1), (D_1 2), (D_1 3), (D_1 4), (D_1 5), (D_1 6), (D_1 7), (D_1 8), (D_1 9), (D_1 10), (D_1 11), (D_1 12), (D_1 13), (D_1 14), (D_1 15), (D_1 16), (D_1 17), (D_1 18), (D_1 19), (D_1 20), (D_1 21), (D_1 22), (D_1 23), (D_1 24), (D_1 25), (D_1 26), (D_1 27), (D_1 28), (D_1 29), (D_1 30), (D_1 31), (D_1 32), (D_1 33), (D_1 34), (D_1 35), (D_1 36), (D_1 37), (D_1 38), (D_1 39), (D_1 40), (D_1 41), (D_1 42), (D_1 43), (D_1 44), (D_1 45), (D_1 46), (D_1 47)] ++ [(D_1 48), (D_1 49), (D_1 50), (D_1 51), (D_1 52), (D_1 53), (D_1 54), x0, x64, x65, undef, x0, x68, x69, undef, undef, undef, undef, undef, undef, undef, undef, undef, undef, undef, undef, undef, undef, undef]).getD i undef), (.int .i64 0), x2_2, h_2, by kernel_rfl, HA_2, H⟩
        · refine wp_skip ?_
          refine then_normal ?_
          refine fr_eq (b := ⟨([x0, x1, x2_2, undef, undef, undef, (.slice none 0 0), (.int .i64 0), (D_1 0), (D_1 1), (D_1 2), (D_1 3), (D_1 4), (D_1 5), (D_1 6), (D_1 7), (D_1 8), (D_1 9), (D_1 10), (D_1 11), (D_1 12), (D_1 13), (D_1 14), (D_1 15), (D_1 16), (D_1 17), (D_1 18), (D_1 19), (D_1 20), (D_1 21), (D_1 22), (D_1 23), (D_1 24), (D_1 25), (D_1 26), (D_1 27), (D_1 28), (D_1 29), (D_1 30), (D_1 31), (D_1 32), (D_1 33), (D_1 34), (D_1 35), (D_1 36), (D_1 37), (D_1 38), (D_1 39), (D_1 40), (D_1 41)] ++ [(D_1 42), (D_1 43), (D_1 44), (D_1 45), (D_1 46), (D_1 47), (D_1 48), (D_1 49), (D_1 50), (D_1 51), (D_1 52), (D_1 53), (D_1 54), x0, x64, x65, undef, x0, x68, x69, undef, undef, undef, undef, undef, undef, undef, undef, undef, undef, undef, undef, undef, undef, undef, undef, undef, undef]).toArray, []⟩) (by kernel_rfl) ?_
          refine wp_exit ?_
          refine block_other rfl ?_
          refine then_exit ?_
          refine block_other rfl ?_
          refine then_exit ?_
          refine block_other rfl ?_
          refine then_exit ?_
          refine block_other rfl ?_
          refine then_exit ?_
          refine block_other rfl ?_
          refine then_exit ?_
          refine block_other rfl ?_
          refine then_exit ?_
          refine block_other rfl ?_
          refine then_exit ?_
          refine block_exit ?_
          exact ⟨(fun i => ([(.slice none 0 0), (.int .i64 0), (D_1 0), (D_1 1), (D_1 2), (D_1 3), (D_1 4), (D_1 5), (D_1 6), (D_1 7), (D_1 8), (D_1 9), (D_1 10), (D_1 11), (D_1 12), (D_1 13), (D_1 14), (D_1 15), (D_1 16), (D_1 17), (D_1 18), (D_1 19), (D_1 20), (D_1 21), (D_1 22), (D_1 23), (D_1 24), (D_1 25), (D_1 26), (D_1 27), (D_1 28), (D_1 29), (D_1 30), (D_1 31), (D_1 32), (D_1 33), (D_1 34), (D_1 35), (D_1 36), (D_1 37), (D_1 38), (D_1 39), (D_1 40), (D_1 41), (D_1 42), (D_1 43), (D_1 44), (D_1 45), (D_1 46), (D_1 47)] ++ [(D_1 48), (D_1 49), (D_1 50), (D_1 51), (D_1 52), (D_1 53), (D_1 54), x0, x64, x65, undef, x0, x68, x69, undef, undef, undef, undef, undef, undef, undef, undef, undef, undef, undef, undef, undef, undef, undef]).getD i undef), x1, x2_2, h_2, by kernel_rfl, HA_2, H⟩
  · rintro _ w ⟨D, x1_1, x2_1, h, rfl, HA, H⟩
    unfold opost_post_j1 at H
    refine then_normal ?_
    refine fr_eq (b := ⟨([x0, x1_1, x2_1, undef, undef, undef, (D 0), (D 1), (D 2), (D 3), (D 4), (D 5), (D 6), (D 7), (D 8), (D 9), (D 10), (D 11), (D 12), (D 13), (D 14), (D 15), (D 16), (D 17), (D 18), (D 19), (D 20), (D 21), (D 22), (D 23), (D 24), (D 25), (D 26), (D 27), (D 28), (D 29), (D 30), (D 31), (D 32), (D 33), (D 34), (D 35), (D 36), (D 37), (D 38), (D 39), (D 40), (D 41), (D 42), (D 43)] ++ [(D 44), (D 45), (D 46), (D 47), (D 48), (D 49), (D 50), (D 51), (D 52), (D 53), (D 54), (D 55), (D 56), (D 57), (D 58), (D 59), (D 60), (D 61), (D 62), (D 63), (D 64), (D 65), (D 66), (D 67), (D 68), (D 69), (D 70), (D 71), (D 72), (D 73), (D 74), (D 75), (D 76), (D 77), (D 78), undef, undef, undef]).toArray, []⟩) (by kernel_rfl) ?_
    refine wp_seq ?_
    refine lwp_list ?_
    refine ls_move (x := x2_1) (by kernel_rfl) (by kernel_rfl) ?_
    refine ls_d (d := some 86) (by kernel_rfl) (by kernel_rfl) HA (d_slit (zc := #[.int .u8 0]) Try.underlying56 Try.sizeOf5 (by decide) (.inr ⟨by decide, _, Try.zeroValue5, (by kernel_rfl)⟩) (by kernel_rfl) (by kernel_rfl) H) (fun x86 h_1 w_1 H HA_1 => ?_)
    refine ls_move (x := x1_1) (by kernel_rfl) (by kernel_rfl) ?_
    refine ls_assign (x := x86) (by kernel_rfl) (by kernel_rfl) ?_
    refine ls_assign (x := x1_1) (by kernel_rfl) (by kernel_rfl) ?_
    refine ls_nil ?_
    refine then_normal ?_
    refine fr_eq (b := ⟨([x0, x1_1, x2_1, undef, undef, undef, x86, x1_1, (D 2), (D 3), (D 4), (D 5), (D 6), (D 7), (D 8), (D 9), (D 10), (D 11), (D 12), (D 13), (D 14), (D 15), (D 16), (D 17), (D 18), (D 19), (D 20), (D 21), (D 22), (D 23), (D 24), (D 25), (D 26), (D 27), (D 28), (D 29), (D 30), (D 31), (D 32), (D 33), (D 34), (D 35), (D 36), (D 37), (D 38), (D 39), (D 40), (D 41), (D 42), (D 43)] ++ [(D 44), (D 45), (D 46), (D 47), (D 48), (D 49), (D 50), (D 51), (D 52), (D 53), (D 54), (D 55), (D 56), (D 57), (D 58), (D 59), (D 60), (D 61), (D 62), (D 63), (D 64), (D 65), (D 66), (D 67), (D 68), (D 69), (D 70), (D 71), (D 72), (D 73), (D 74), (D 75), (D 76), (D 77), (D 78), x2_1, x86, x1_1]).toArray, []⟩) (by kernel_rfl) ?_
    refine wp_ret ?_
    exact end2 (Try.results51) (by kernel_rfl) (by kernel_rfl) (by kernel_rfl) HA_1 H _ (.inr rfl)

end Go.Proofs.Ythhpieidlpjbmaa
