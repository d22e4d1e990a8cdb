/- The shallow reading of one function, and that the function does it. Written by a program. -/
import Derived.Test.YtbgipcikkedloaaFnC
set_option linter.unusedVariables false
namespace Go.Proofs.Ytbgipcikkedloaa
open Go Go.HW

def betonylaw08_awake_S (h : Heap) (R : Value → Heap → Prop) : Prop :=
  sNew h #[.int .i64 0] 59 fun x1 h => 
  scan_Decoder_Feed_c x1 (.int .u8 96) h fun x7 h_1 => 
  sTup x7 0 fun x8 =>
  sTup x7 1 fun x9 =>
  sNew h_1 #[.int .i64 0, .int .i64 0] 52 fun x2 h_2 => 
  sStN h_2 x2 x8 2 fun h_3 => 
  scan_Decoder_Feed_c x1 (.int .u8 1) h_3 fun x11 h_4 => 
  sTup x11 0 fun x12 =>
  sTup x11 1 fun x13 =>
  sNew h_4 #[.int .i64 0, .int .i64 0] 52 fun x4 h_5 => 
  sStN h_5 x4 x12 2 fun h_6 => 
  sNot x9 fun x15 =>
  sAnd x15 (fun k_3 =>
  k_3 x13) fun x18 =>
  sAnd x18 (fun k_2 =>
  sLdN h_6 x4 2 fun x20 =>
  sBuild #[.int .i64 0, .int .i64 0] [(0, 1, (.int .i64 1)), (1, 1, (.int .i64 1))] fun x21 =>
  sEqlAgg x20 x21 [some .i64, some .i64] fun x22 =>
  k_2 x22) fun x23 =>
  sAndH x23 h_6 (fun k_1 =>
  sLdN h_6 x4 2 fun x25 =>
  scan_Bytes_c x25 (.bool false) h_6 fun x26 h_12 => 
  sSlit h_12 #[.int .u8 0] [(0, 1, (.int .u8 65))] 5 1 fun x27 h_13 => 
  betonyref01_Same_c x26 x27 h_13 fun x28 h_14 => 
  k_1 x28 h_14) fun x29 h_7 =>
  sAndH x29 h_7 (fun k =>
  sBuild #[.int .i64 0, .int .i64 0] [(0, 1, (.int .i64 3)), (1, 1, (.int .i64 2))] fun x31 =>
  scan_Bytes_c x31 (.bool false) h_7 fun x32 h_9 => 
  sSlit h_9 #[.int .u8 0] [(0, 1, (.int .u8 3))] 5 1 fun x33 h_10 => 
  betonyref01_Same_c x32 x33 h_10 fun x34 h_11 => 
  k x34 h_11) fun x35 h_8 =>
  R x35 h_8
set_option maxRecDepth 100000 in
theorem betonylaw08_awake_runs {h : Heap} {R : Value → Heap → Prop} (H : betonylaw08_awake_S  h R) : betonylaw08_awake_c  h R := by
  unfold betonylaw08_awake_S at H
  refine runs_of (b := ⟨#[undef, undef, undef, undef, undef, undef, undef, undef, undef, undef, undef, undef, undef, undef, undef, undef, undef, undef, undef, undef, undef, undef, undef, undef, undef, undef, undef, undef, undef, undef, undef, undef, undef, undef, undef, undef], []⟩) Try.call26 Try.func26 rfl (by kernel_rfl) (fun w0 HA => ?_)
  refine wp_seq ?_
  refine lwp_list ?_
  refine ls_assign (x := (.bool false)) (by kernel_rfl) (by kernel_rfl) ?_
  refine ls_nil ?_
  refine then_normal ?_
  refine fr_eq (b := ⟨#[(.bool false), undef, undef, undef, undef, undef, undef, undef, undef, undef, undef, undef, undef, undef, undef, undef, undef, undef, undef, undef, undef, undef, undef, undef, undef, undef, undef, undef, undef, undef, undef, undef, undef, undef, undef, undef], []⟩) (by kernel_rfl) ?_
  refine wp_seq ?_
  refine lwp_list ?_
  refine ls_d (d := some 1) (by kernel_rfl) (by kernel_rfl) HA (d_alloc Try.zeroValue59 H) (fun x1 h w H HA => ?_)
  refine ls_nil ?_
  refine then_normal ?_
  refine fr_eq (b := ⟨#[(.bool false), x1, undef, undef, undef, undef, undef, undef, undef, undef, undef, undef, undef, undef, undef, undef, undef, undef, undef, undef, undef, undef, undef, undef, undef, undef, undef, undef, undef, undef, undef, undef, undef, undef, undef, undef], []⟩) (by kernel_rfl) ?_
  refine wp_seq ?_
  refine lwp_list ?_
  refine ls_d (d := some 7) (by kernel_rfl) (by kernel_rfl) HA (d_call (by kernel_rfl) (by kernel_rfl) H) (fun x7 h_1 w_1 H HA_1 => ?_)
  refine ls_move (x := x7) (by kernel_rfl) (by kernel_rfl) ?_
  refine ls_p (d := some 8) (by kernel_rfl) (by kernel_rfl) (p_tup (by kernel_rfl) H) (fun x8 H => ?_)
  refine ls_p (d := some 9) (by kernel_rfl) (by kernel_rfl) (p_tup (by kernel_rfl) H) (fun x9 H => ?_)
  refine ls_d (d := some 2) (by kernel_rfl) (by kernel_rfl) HA_1 (d_alloc Try.zeroValue52 H) (fun x2 h_2 w_2 H HA_2 => ?_)
  refine ls_d (d := none) (by kernel_rfl) (by kernel_rfl) HA_2 (d_stn Try.sizeOf52 (by kernel_rfl) (by kernel_rfl) H) (fun _ h_3 w_3 H HA_3 => ?_)
  refine ls_fr (b := ⟨#[(.bool false), x1, x2, undef, undef, undef, x7, x7, x8, x9, undef, undef, undef, undef, undef, undef, undef, undef, undef, undef, undef, undef, undef, undef, undef, undef, undef, undef, undef, undef, undef, undef, undef, undef, undef, undef], []⟩) (by kernel_rfl) ?_
  refine ls_assign (x := x9) (by kernel_rfl) (by kernel_rfl) ?_
  refine ls_nil ?_
  refine then_normal ?_
  refine fr_eq (b := ⟨#[(.bool false), x1, x2, x9, undef, undef, x7, x7, x8, x9, undef, undef, undef, undef, undef, undef, undef, undef, undef, undef, undef, undef, undef, undef, undef, undef, undef, undef, undef, undef, undef, undef, undef, undef, undef, undef], []⟩) (by kernel_rfl) ?_
  refine wp_seq ?_
  refine lwp_list ?_
  refine ls_d (d := some 11) (by kernel_rfl) (by kernel_rfl) HA_3 (d_call (by kernel_rfl) (by kernel_rfl) H) (fun x11 h_4 w_4 H HA_4 => ?_)
  refine ls_move (x := x11) (by kernel_rfl) (by kernel_rfl) ?_
  refine ls_p (d := some 12) (by kernel_rfl) (by kernel_rfl) (p_tup (by kernel_rfl) H) (fun x12 H => ?_)
  refine ls_p (d := some 13) (by kernel_rfl) (by kernel_rfl) (p_tup (by kernel_rfl) H) (fun x13 H => ?_)
  refine ls_d (d := some 4) (by kernel_rfl) (by kernel_rfl) HA_4 (d_alloc Try.zeroValue52 H) (fun x4 h_5 w_5 H HA_5 => ?_)
  refine ls_d (d := none) (by kernel_rfl) (by kernel_rfl) HA_5 (d_stn Try.sizeOf52 (by kernel_rfl) (by kernel_rfl) H) (fun _ h_6 w_6 H HA_6 => ?_)
  refine ls_fr (b := ⟨#[(.bool false), x1, x2, x9, x4, undef, x7, x7, x8, x9, x11, x11, x12, x13, undef, undef, undef, undef, undef, undef, undef, undef, undef, undef, undef, undef, undef, undef, undef, undef, undef, undef, undef, undef, undef, undef], []⟩) (by kernel_rfl) ?_
  refine ls_assign (x := x13) (by kernel_rfl) (by kernel_rfl) ?_
  refine ls_nil ?_
  refine then_normal ?_
  refine fr_eq (b := ⟨#[(.bool false), x1, x2, x9, x4, x13, x7, x7, x8, x9, x11, x11, x12, x13, undef, undef, undef, undef, undef, undef, undef, undef, undef, undef, undef, undef, undef, undef, undef, undef, undef, undef, undef, undef, undef, undef], []⟩) (by kernel_rfl) ?_
  refine wp_seq ?_
  refine lwp_list ?_
  refine ls_move (x := x9) (by kernel_rfl) (by kernel_rfl) ?_
  refine ls_p (d := some 15) (by kernel_rfl) (by kernel_rfl) (p_not (by kernel_rfl) H) (fun x15 H => ?_)
  refine ls_move (x := x15) (by kernel_rfl) (by kernel_rfl) ?_
  refine ls_and [(), ()] (fun K a w => ∃ (D : Nat → Value) (x18 : Value), a = ⟨#[(.bool false), x1, x2, x9, x4, x13, x7, x7, x8, x9, x11, x11, x12, x13, x9, x15, x15, (D 0), x18, undef, undef, undef, undef, undef, undef, undef, undef, undef, undef, undef, undef, undef, undef, undef, undef, undef], []⟩ ∧ At w0 w h_6 ∧ K x18) H (fun hb_3 H => ?_) (fun hb_3 H => ?_) ?_
  · refine ls_move (x := x13) (by rw [hb_3]; kernel_rfl) (by kernel_rfl) ?_
    refine ls_pick_t (x := x13) (by kernel_rfl) (by rw [hb_3]; kernel_rfl) (by kernel_rfl) ?_
    refine ls_nil ?_
    refine then_normal ?_
    exact ⟨(fun i => ([x13]).getD i undef), x13, by kernel_rfl, HA_6, H⟩
  · refine ls_skip (d := some 17) (by kernel_rfl) (by rw [hb_3]; kernel_rfl) ?_
    refine ls_pick_f (y := (.bool false)) (by kernel_rfl) (by rw [hb_3]; kernel_rfl) (by kernel_rfl) ?_
    refine ls_nil ?_
    refine then_normal ?_
    exact ⟨(fun i => ([undef]).getD i undef), (.bool false), by kernel_rfl, HA_6, H⟩
  · rintro _ w_7 ⟨D, x18, rfl, HA_7, H⟩
    refine ls_move (x := x18) (by kernel_rfl) (by kernel_rfl) ?_
    refine ls_and [(), (), (), ()] (fun K a w => ∃ (D_1 : Nat → Value) (x23 : Value), a = ⟨#[(.bool false), x1, x2, x9, x4, x13, x7, x7, x8, x9, x11, x11, x12, x13, x9, x15, x15, (D 0), x18, x18, (D_1 0), (D_1 1), (D_1 2), x23, undef, undef, undef, undef, undef, undef, undef, undef, undef, undef, undef, undef], []⟩ ∧ At w0 w h_6 ∧ K x23) H (fun hb_2 H => ?_) (fun hb_2 H => ?_) ?_
    · refine ls_y (d := some 20) (by kernel_rfl) (by rw [hb_2]; kernel_rfl) HA_7 (y_ldn Try.isAgg52 Try.sizeOf52 (by kernel_rfl) H) (fun x20 H => ?_)
      refine ls_p (d := some 21) (by kernel_rfl) (by rw [hb_2]; kernel_rfl) (p_lit (pl := [(0, 1), (1, 1)]) Try.zeroValue52 Try.underlying52 ⟨(by kernel_rfl), Try.sizeOf3, (by kernel_rfl), Try.sizeOf3, trivial⟩ (by kernel_rfl) (by kernel_rfl) H) (fun x21 H => ?_)
      refine ls_p (d := some 22) (by kernel_rfl) (by rw [hb_2]; kernel_rfl) (p_eqlAgg (eqT_52) (by kernel_rfl) (by kernel_rfl) H) (fun x22 H => ?_)
      refine ls_pick_t (x := x22) (by kernel_rfl) (by rw [hb_2]; kernel_rfl) (by kernel_rfl) ?_
      refine ls_nil ?_
      refine then_normal ?_
      exact ⟨(fun i => ([x20, x21, x22]).getD i undef), x22, by kernel_rfl, HA_7, H⟩
    · refine ls_skip (d := some 20) (by kernel_rfl) (by rw [hb_2]; kernel_rfl) ?_
      refine ls_skip (d := some 21) (by kernel_rfl) (by rw [hb_2]; kernel_rfl) ?_
      refine ls_skip (d := some 22) (by kernel_rfl) (by rw [hb_2]; kernel_rfl) ?_
      refine ls_pick_f (y := (.bool false)) (by kernel_rfl) (by rw [hb_2]; kernel_rfl) (by kernel_rfl) ?_
      refine ls_nil ?_
      refine then_normal ?_
      exact ⟨(fun i => ([undef, undef, undef]).getD i undef), (.bool false), by kernel_rfl, HA_7, H⟩
    · rintro _ w_8 ⟨D_1, x23, rfl, HA_8, H⟩
      refine ls_move (x := x23) (by kernel_rfl) (by kernel_rfl) ?_
      refine ls_andh [(), (), (), (), ()] (fun K a w => ∃ (D_2 : Nat → Value) (x29 : Value) (h_7 : Heap), a = ⟨#[(.bool false), x1, x2, x9, x4, x13, x7, x7, x8, x9, x11, x11, x12, x13, x9, x15, x15, (D 0), x18, x18, (D_1 0), (D_1 1), (D_1 2), x23, x23, (D_2 0), (D_2 1), (D_2 2), (D_2 3), x29, undef, undef, undef, undef, undef, undef], []⟩ ∧ At w0 w h_7 ∧ K x29 h_7) H (fun hb_1 H => ?_) (fun hb_1 H => ?_) ?_
      · refine ls_y (d := some 25) (by kernel_rfl) (by rw [hb_1]; kernel_rfl) HA_8 (y_ldn Try.isAgg52 Try.sizeOf52 (by kernel_rfl) H) (fun x25 H => ?_)
        refine ls_d (d := some 26) (by kernel_rfl) (by rw [hb_1]; kernel_rfl) HA_8 (d_call (by kernel_rfl) (by kernel_rfl) H) (fun x26 h_12 w_14 H HA_14 => ?_)
        refine ls_d (d := some 27) (by kernel_rfl) (by rw [hb_1]; kernel_rfl) HA_14 (d_slit (zc := #[.int .u8 0]) Try.underlying54 Try.sizeOf5 (by decide) (.inr ⟨by decide, _, Try.zeroValue5, (by kernel_rfl)⟩) (by kernel_rfl) (by kernel_rfl) H) (fun x27 h_13 w_15 H HA_15 => ?_)
        refine ls_d (d := some 28) (by kernel_rfl) (by rw [hb_1]; kernel_rfl) HA_15 (d_call (by kernel_rfl) (by kernel_rfl) H) (fun x28 h_14 w_16 H HA_16 => ?_)
        refine ls_pick_t (x := x28) (by kernel_rfl) (by rw [hb_1]; kernel_rfl) (by kernel_rfl) ?_
        refine ls_nil ?_
        refine then_normal ?_
        exact ⟨(fun i => ([x25, x26, x27, x28]).getD i undef), x28, h_14, by kernel_rfl, HA_16, H⟩
      · refine ls_skip (d := some 25) (by kernel_rfl) (by rw [hb_1]; kernel_rfl) ?_
        refine ls_skip (d := some 26) (by kernel_rfl) (by rw [hb_1]; kernel_rfl) ?_
        refine ls_skip (d := some 27) (by kernel_rfl) (by rw [hb_1]; kernel_rfl) ?_
        refine ls_skip (d := some 28) (by kernel_rfl) (by rw [hb_1]; kernel_rfl) ?_
        refine ls_pick_f (y := (.bool false)) (by kernel_rfl) (by rw [hb_1]; kernel_rfl) (by kernel_rfl) ?_
        refine ls_nil ?_
        refine then_normal ?_
        exact ⟨(fun i => ([undef, undef, undef, undef]).getD i undef), (.bool false), h_6, by kernel_rfl, HA_8, H⟩
      · rintro _ w_9 ⟨D_2, x29, h_7, rfl, HA_9, H⟩
        refine ls_move (x := x29) (by kernel_rfl) (by kernel_rfl) ?_
        refine ls_andh [(), (), (), (), ()] (fun K a w => ∃ (D_3 : Nat → Value) (x35 : Value) (h_8 : Heap), a = ⟨#[(.bool false), x1, x2, x9, x4, x13, x7, x7, x8, x9, x11, x11, x12, x13, x9, x15, x15, (D 0), x18, x18, (D_1 0), (D_1 1), (D_1 2), x23, x23, (D_2 0), (D_2 1), (D_2 2), (D_2 3), x29, x29, (D_3 0), (D_3 1), (D_3 2), (D_3 3), x35], []⟩ ∧ At w0 w h_8 ∧ K x35 h_8) H (fun hb H => ?_) (fun hb H => ?_) ?_
        · refine ls_p (d := some 31) (by kernel_rfl) (by rw [hb]; kernel_rfl) (p_lit (pl := [(0, 1), (1, 1)]) Try.zeroValue52 Try.underlying52 ⟨(by kernel_rfl), Try.sizeOf3, (by kernel_rfl), Try.sizeOf3, trivial⟩ (by kernel_rfl) (by kernel_rfl) H) (fun x31 H => ?_)
          refine ls_d (d := some 32) (by kernel_rfl) (by rw [hb]; kernel_rfl) HA_9 (d_call (by kernel_rfl) (by kernel_rfl) H) (fun x32 h_9 w_11 H HA_11 => ?_)
          refine ls_d (d := some 33) (by kernel_rfl) (by rw [hb]; kernel_rfl) HA_11 (d_slit (zc := #[.int .u8 0]) Try.underlying54 Try.sizeOf5 (by decide) (.inr ⟨by decide, _, Try.zeroValue5, (by kernel_rfl)⟩) (by kernel_rfl) (by kernel_rfl) H) (fun x33 h_10 w_12 H HA_12 => ?_)
          refine ls_d (d := some 34) (by kernel_rfl) (by rw [hb]; kernel_rfl) HA_12 (d_call (by kernel_rfl) (by kernel_rfl) H) (fun x34 h_11 w_13 H HA_13 => ?_)
          refine ls_pick_t (x := x34) (by kernel_rfl) (by rw [hb]; kernel_rfl) (by kernel_rfl) ?_
          refine ls_nil ?_
          refine then_normal ?_
          exact ⟨(fun i => ([x31, x32, x33, x34]).getD i undef), x34, h_11, by kernel_rfl, HA_13, H⟩
        · refine ls_skip (d := some 31) (by kernel_rfl) (by rw [hb]; kernel_rfl) ?_
          refine ls_skip (d := some 32) (by kernel_rfl) (by rw [hb]; kernel_rfl) ?_
          refine ls_skip (d := some 33) (by kernel_rfl) (by rw [hb]; kernel_rfl) ?_
          refine ls_skip (d := some 34) (by kernel_rfl) (by rw [hb]; kernel_rfl) ?_
          refine ls_pick_f (y := (.bool false)) (by kernel_rfl) (by rw [hb]; kernel_rfl) (by kernel_rfl) ?_
          refine ls_nil ?_
          refine then_normal ?_
          exact ⟨(fun i => ([undef, undef, undef, undef]).getD i undef), (.bool false), h_7, by kernel_rfl, HA_9, H⟩
        · rintro _ w_10 ⟨D_3, x35, h_8, rfl, HA_10, H⟩
          refine ls_assign (x := x35) (by kernel_rfl) (by kernel_rfl) ?_
          refine ls_nil ?_
          refine then_normal ?_
          refine fr_eq (b := ⟨#[x35, x1, x2, x9, x4, x13, x7, x7, x8, x9, x11, x11, x12, x13, x9, x15, x15, (D 0), x18, x18, (D_1 0), (D_1 1), (D_1 2), x23, x23, (D_2 0), (D_2 1), (D_2 2), (D_2 3), x29, x29, (D_3 0), (D_3 1), (D_3 2), (D_3 3), x35], []⟩) (by kernel_rfl) ?_
          refine wp_ret ?_
          exact end1 (Try.results26) (by kernel_rfl) (by kernel_rfl) HA_10 H _ (.inr rfl)

end Go.Proofs.Ytbgipcikkedloaa
