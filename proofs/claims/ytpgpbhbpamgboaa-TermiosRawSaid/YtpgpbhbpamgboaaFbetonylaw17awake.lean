/- The shallow reading of one function, and that the function does it. Written by a program. -/
import Derived.Test.YtpgpbhbpamgboaaFnC
set_option linter.unusedVariables false
namespace Go.Proofs.Ytpgpbhbpamgboaa
open Go Go.HW

def betonylaw17_awake_S (h : Heap) (R : Value → Heap → Prop) : Prop :=
  termios_Plain_c  h fun x4 h => 
  termios_Map_c x4 (.int .u8 13) h fun x5 h_1 => 
  sTup x5 0 fun x6 =>
  sTup x5 1 fun x7 =>
  sEq x6 (.int .u8 10) fun x9 =>
  sAnd x9 (fun k_2 =>
  k_2 x7) fun x12 =>
  sAndH x12 h_1 (fun k_1 =>
  termios_Plain_c  h_1 fun x14 h_6 => 
  betonyref17_Plain_c  h_6 fun x15 h_7 => 
  sEqlAgg x14 x15 [some .i64, some .i64, some .i64, some .i64, some .i64, some .i64, some .i64, some .i64, some .i64, some .i64, some .i64, some .i64, some .i64, some .i64, some .i64, some .i64, some .i64] fun x16 =>
  k_1 x16 h_7) fun x17 h_2 =>
  sAndH x17 h_2 (fun k =>
  termios_Plain_c  h_2 fun x19 h_4 => 
  termios_Right_c x19 h_4 fun x20 h_5 => 
  k x20 h_5) fun x21 h_3 =>
  R x21 h_3
set_option maxRecDepth 100000 in
theorem betonylaw17_awake_runs {h : Heap} {R : Value → Heap → Prop} (H : betonylaw17_awake_S  h R) : betonylaw17_awake_c  h R := by
  unfold betonylaw17_awake_S at H
  refine runs_of (b := ⟨#[undef, undef, undef, undef, undef, undef, undef, undef, undef, undef, undef, undef, undef, undef, undef, undef, undef, undef, undef, undef, undef, undef], []⟩) Try.call11 Try.func11 rfl (by kernel_rfl) (fun w0 HA => ?_)
  refine wp_seq ?_
  refine lwp_list ?_
  refine ls_assign (x := (.bool false)) (by kernel_rfl) (by kernel_rfl) ?_
  refine ls_nil ?_
  refine then_normal ?_
  refine fr_eq (b := ⟨#[(.bool false), undef, undef, undef, undef, undef, undef, undef, undef, undef, undef, undef, undef, undef, undef, undef, undef, undef, undef, undef, undef, undef], []⟩) (by kernel_rfl) ?_
  refine wp_seq ?_
  refine lwp_list ?_
  refine ls_d (d := some 4) (by kernel_rfl) (by kernel_rfl) HA (d_call (by kernel_rfl) (by kernel_rfl) H) (fun x4 h w H HA => ?_)
  refine ls_d (d := some 5) (by kernel_rfl) (by kernel_rfl) HA (d_call (by kernel_rfl) (by kernel_rfl) H) (fun x5 h_1 w_1 H HA_1 => ?_)
  refine ls_move (x := x5) (by kernel_rfl) (by kernel_rfl) ?_
  refine ls_p (d := some 6) (by kernel_rfl) (by kernel_rfl) (p_tup (by kernel_rfl) H) (fun x6 H => ?_)
  refine ls_p (d := some 7) (by kernel_rfl) (by kernel_rfl) (p_tup (by kernel_rfl) H) (fun x7 H => ?_)
  refine ls_assign (x := x6) (by kernel_rfl) (by kernel_rfl) ?_
  refine ls_fr (b := ⟨#[(.bool false), x6, undef, x5, x4, x5, x6, x7, undef, undef, undef, undef, undef, undef, undef, undef, undef, undef, undef, undef, undef, undef], []⟩) (by kernel_rfl) ?_
  refine ls_assign (x := x7) (by kernel_rfl) (by kernel_rfl) ?_
  refine ls_nil ?_
  refine then_normal ?_
  refine fr_eq (b := ⟨#[(.bool false), x6, x7, x5, x4, x5, x6, x7, undef, undef, undef, undef, undef, undef, undef, undef, undef, undef, undef, undef, undef, undef], []⟩) (by kernel_rfl) ?_
  refine wp_seq ?_
  refine lwp_list ?_
  refine ls_move (x := x6) (by kernel_rfl) (by kernel_rfl) ?_
  refine ls_p (d := some 9) (by kernel_rfl) (by kernel_rfl) (p_sEq (by kernel_rfl) (by kernel_rfl) H) (fun x9 H => ?_)
  refine ls_move (x := x9) (by kernel_rfl) (by kernel_rfl) ?_
  refine ls_and [(), ()] (fun K a w => ∃ (D : Nat → Value) (x12 : Value), a = ⟨#[(.bool false), x6, x7, x5, x4, x5, x6, x7, x6, x9, x9, (D 0), x12, undef, undef, undef, undef, undef, undef, undef, undef, undef], []⟩ ∧ At w0 w h_1 ∧ K x12) H (fun hb_2 H => ?_) (fun hb_2 H => ?_) ?_
  · refine ls_move (x := x7) (by rw [hb_2]; kernel_rfl) (by kernel_rfl) ?_
    refine ls_pick_t (x := x7) (by kernel_rfl) (by rw [hb_2]; kernel_rfl) (by kernel_rfl) ?_
    refine ls_nil ?_
    refine then_normal ?_
    exact ⟨(fun i => ([x7]).getD i undef), x7, by kernel_rfl, HA_1, H⟩
  · refine ls_skip (d := some 11) (by kernel_rfl) (by rw [hb_2]; kernel_rfl) ?_
    refine ls_pick_f (y := (.bool false)) (by kernel_rfl) (by rw [hb_2]; kernel_rfl) (by kernel_rfl) ?_
    refine ls_nil ?_
    refine then_normal ?_
    exact ⟨(fun i => ([undef]).getD i undef), (.bool false), by kernel_rfl, HA_1, H⟩
  · rintro _ w_2 ⟨D, x12, rfl, HA_2, H⟩
    refine ls_move (x := x12) (by kernel_rfl) (by kernel_rfl) ?_
    refine ls_andh [(), (), (), ()] (fun K a w => ∃ (D_1 : Nat → Value) (x17 : Value) (h_2 : Heap), a = ⟨#[(.bool false), x6, x7, x5, x4, x5, x6, x7, x6, x9, x9, (D 0), x12, x12, (D_1 0), (D_1 1), (D_1 2), x17, undef, undef, undef, undef], []⟩ ∧ At w0 w h_2 ∧ K x17 h_2) H (fun hb_1 H => ?_) (fun hb_1 H => ?_) ?_
    · refine ls_d (d := some 14) (by kernel_rfl) (by rw [hb_1]; kernel_rfl) HA_2 (d_call (by kernel_rfl) (by kernel_rfl) H) (fun x14 h_6 w_7 H HA_7 => ?_)
      refine ls_d (d := some 15) (by kernel_rfl) (by rw [hb_1]; kernel_rfl) HA_7 (d_call (by kernel_rfl) (by kernel_rfl) H) (fun x15 h_7 w_8 H HA_8 => ?_)
      refine ls_p (d := some 16) (by kernel_rfl) (by rw [hb_1]; kernel_rfl) (p_eqlAgg (eqT_24) (by kernel_rfl) (by kernel_rfl) H) (fun x16 H => ?_)
      refine ls_pick_t (x := x16) (by kernel_rfl) (by rw [hb_1]; kernel_rfl) (by kernel_rfl) ?_
      refine ls_nil ?_
      refine then_normal ?_
      exact ⟨(fun i => ([x14, x15, x16]).getD i undef), x16, h_7, by kernel_rfl, HA_8, H⟩
    · refine ls_skip (d := some 14) (by kernel_rfl) (by rw [hb_1]; kernel_rfl) ?_
      refine ls_skip (d := some 15) (by kernel_rfl) (by rw [hb_1]; kernel_rfl) ?_
      refine ls_skip (d := some 16) (by kernel_rfl) (by rw [hb_1]; kernel_rfl) ?_
      refine ls_pick_f (y := (.bool false)) (by kernel_rfl) (by rw [hb_1]; kernel_rfl) (by kernel_rfl) ?_
      refine ls_nil ?_
      refine then_normal ?_
      exact ⟨(fun i => ([undef, undef, undef]).getD i undef), (.bool false), h_1, by kernel_rfl, HA_2, H⟩
    · rintro _ w_3 ⟨D_1, x17, h_2, rfl, HA_3, H⟩
      refine ls_move (x := x17) (by kernel_rfl) (by kernel_rfl) ?_
      refine ls_andh [(), (), ()] (fun K a w => ∃ (D_2 : Nat → Value) (x21 : Value) (h_3 : Heap), a = ⟨#[(.bool false), x6, x7, x5, x4, x5, x6, x7, x6, x9, x9, (D 0), x12, x12, (D_1 0), (D_1 1), (D_1 2), x17, x17, (D_2 0), (D_2 1), x21], []⟩ ∧ At w0 w h_3 ∧ K x21 h_3) H (fun hb H => ?_) (fun hb H => ?_) ?_
      · refine ls_d (d := some 19) (by kernel_rfl) (by rw [hb]; kernel_rfl) HA_3 (d_call (by kernel_rfl) (by kernel_rfl) H) (fun x19 h_4 w_5 H HA_5 => ?_)
        refine ls_d (d := some 20) (by kernel_rfl) (by rw [hb]; kernel_rfl) HA_5 (d_call (by kernel_rfl) (by kernel_rfl) H) (fun x20 h_5 w_6 H HA_6 => ?_)
        refine ls_pick_t (x := x20) (by kernel_rfl) (by rw [hb]; kernel_rfl) (by kernel_rfl) ?_
        refine ls_nil ?_
        refine then_normal ?_
        exact ⟨(fun i => ([x19, x20]).getD i undef), x20, h_5, by kernel_rfl, HA_6, H⟩
      · refine ls_skip (d := some 19) (by kernel_rfl) (by rw [hb]; kernel_rfl) ?_
        refine ls_skip (d := some 20) (by kernel_rfl) (by rw [hb]; kernel_rfl) ?_
        refine ls_pick_f (y := (.bool false)) (by kernel_rfl) (by rw [hb]; kernel_rfl) (by kernel_rfl) ?_
        refine ls_nil ?_
        refine then_normal ?_
        exact ⟨(fun i => ([undef, undef]).getD i undef), (.bool false), h_2, by kernel_rfl, HA_3, H⟩
      · rintro _ w_4 ⟨D_2, x21, h_3, rfl, HA_4, H⟩
        refine ls_assign (x := x21) (by kernel_rfl) (by kernel_rfl) ?_
        refine ls_nil ?_
        refine then_normal ?_
        refine fr_eq (b := ⟨#[x21, x6, x7, x5, x4, x5, x6, x7, x6, x9, x9, (D 0), x12, x12, (D_1 0), (D_1 1), (D_1 2), x17, x17, (D_2 0), (D_2 1), x21], []⟩) (by kernel_rfl) ?_
        refine wp_ret ?_
        exact end1 (Try.results11) (by kernel_rfl) (by kernel_rfl) HA_4 H _ (.inr rfl)

end Go.Proofs.Ytpgpbhbpamgboaa
