/- The shallow reading of one function, and that the function does it. Written by a program. -/
import Derived.Test.YthhpieidlpjbmaaFnC
set_option linter.unusedVariables false
namespace Go.Proofs.Ythhpieidlpjbmaa
open Go Go.HW

def betonylaw19_OpostParts_S (x0 x1 x2 x3 : Value) (h : Heap) (R : Value → Heap → Prop) : Prop :=
  sLen x2 fun x16 =>
  sGt x16 (.int .i64 200) fun x17 =>
  sOr x17 (fun k_3 =>
  sLen x3 fun x20 =>
  sGt x20 (.int .i64 200) fun x21 =>
  k_3 x21) fun x22 =>
  sIf x22 (betonylaw19_awake_c  h fun x23 h => 
  R x23 h) (opost_Bytes_c x0 x1 x2 h fun x28 h_1 => 
  sTup x28 0 fun x29 =>
  sTup x28 1 fun x30 =>
  opost_Bytes_c x0 x30 x3 h_1 fun x35 h_2 => 
  sTup x35 0 fun x36 =>
  sTup x35 1 fun x37 =>
  sSlit h_2 #[] [] 5 0 fun x41 h_3 => 
  sApp h_3 x41 x2 #[.int .u8 0] 5 1 fun x43 h_4 => 
  sApp h_4 x43 x3 #[.int .u8 0] 5 1 fun x45 h_5 => 
  opost_Bytes_c x0 x1 x45 h_5 fun x46 h_6 => 
  sTup x46 0 fun x47 =>
  sTup x46 1 fun x48 =>
  sSlit h_6 #[] [] 5 0 fun x50 h_7 => 
  sApp h_7 x50 x29 #[.int .u8 0] 5 1 fun x52 h_8 => 
  sApp h_8 x52 x36 #[.int .u8 0] 5 1 fun x54 h_9 => 
  betonyref01_Same_c x47 x54 h_9 fun x55 h_10 => 
  sAnd x55 (fun k_1 =>
  sEq x48 x37 fun x59 =>
  sOr x59 (fun k_2 =>
  sGt x30 (.int .i64 1073741824) fun x62 =>
  k_2 x62) fun x63 =>
  k_1 x63) fun x64 =>
  sAndH x64 h_10 (fun k =>
  betonylaw19_awake_c  h_10 fun x66 h_12 => 
  k x66 h_12) fun x67 h_11 =>
  R x67 h_11)
set_option maxRecDepth 100000 in
theorem betonylaw19_OpostParts_runs {x0 x1 x2 x3 : Value} {h : Heap} {R : Value → Heap → Prop} (H : betonylaw19_OpostParts_S x0 x1 x2 x3 h R) : betonylaw19_OpostParts_c x0 x1 x2 x3 h R := by
  unfold betonylaw19_OpostParts_S at H
  refine runs_of (b := ⟨([x0, x1, x2, x3, undef, undef, undef, undef, undef, undef, undef, undef, undef, undef, undef, undef, undef, undef, undef, undef, undef, undef, undef, undef, undef, undef, undef, undef, undef, undef, undef, undef, undef, undef, undef, undef, undef, undef, undef, undef, undef, undef, undef, undef, undef, undef, undef, undef, undef, undef] ++ [undef, undef, undef, undef, undef, undef, undef, undef, undef, undef, undef, undef, undef, undef, undef, undef, undef, undef]).toArray, []⟩) Try.call9 Try.func9 rfl (by kernel_rfl) (fun w0 HA => ?_)
  refine wp_seq ?_
  refine lwp_list ?_
  refine ls_assign (x := (.bool false)) (by kernel_rfl) (by kernel_rfl) ?_
  refine ls_nil ?_
  refine then_normal ?_
  refine fr_eq (b := ⟨([x0, x1, x2, x3, undef, undef, undef, undef, (.bool false), undef, undef, undef, undef, undef, undef, undef, undef, undef, undef, undef, undef, undef, undef, undef, undef, undef, undef, undef, undef, undef, undef, undef, undef, undef, undef, undef, undef, undef, undef, undef, undef, undef, undef, undef, undef, undef, undef, undef, undef, undef] ++ [undef, undef, undef, undef, undef, undef, undef, undef, undef, undef, undef, undef, undef, undef, undef, undef, undef, undef]).toArray, []⟩) (by kernel_rfl) ?_
  refine wp_seq ?_
  refine wp_seq ?_
  refine lwp_list ?_
  refine ls_move (x := x2) (by kernel_rfl) (by kernel_rfl) ?_
  refine ls_p (d := some 16) (by kernel_rfl) (by kernel_rfl) (p_len Try.underlying56 (by kernel_rfl) H) (fun x16 H => ?_)
  refine ls_p (d := some 17) (by kernel_rfl) (by kernel_rfl) (p_sGt (by kernel_rfl) (by kernel_rfl) H) (fun x17 H => ?_)
  refine ls_move (x := x17) (by kernel_rfl) (by kernel_rfl) ?_
  refine ls_or [(), (), (), ()] (fun K a w => ∃ (D : Nat → Value) (x22 : Value), a = ⟨([x0, x1, x2, x3, undef, undef, undef, undef, (.bool false), undef, undef, undef, undef, undef, undef, x2, x16, x17, x17, (D 0), (D 1), (D 2), x22, undef, undef, undef, undef, undef, undef, undef, undef, undef, undef, undef, undef, undef, undef, undef, undef, undef, undef, undef, undef, undef, undef, undef, undef, undef, undef, undef] ++ [undef, undef, undef, undef, undef, undef, undef, undef, undef, undef, undef, undef, undef, undef, undef, undef, undef, undef]).toArray, []⟩ ∧ At w0 w h ∧ K x22) H (fun hb_3 H => ?_) (fun hb_3 H => ?_) ?_
  · refine ls_move (x := x3) (by rw [hb_3]; kernel_rfl) (by kernel_rfl) ?_
    refine ls_p (d := some 20) (by kernel_rfl) (by rw [hb_3]; kernel_rfl) (p_len Try.underlying56 (by kernel_rfl) H) (fun x20 H => ?_)
    refine ls_fr (b := ⟨([x0, x1, x2, x3, undef, undef, undef, undef, (.bool false), undef, undef, undef, undef, undef, undef, x2, x16, x17, x17, x3, x20, undef, undef, undef, undef, undef, undef, undef, undef, undef, undef, undef, undef, undef, undef, undef, undef, undef, undef, undef, undef, undef, undef, undef, undef, undef, undef, undef, undef, undef] ++ [undef, undef, undef, undef, undef, undef, undef, undef, undef, undef, undef, undef, undef, undef, undef, undef, undef, undef]).toArray, []⟩) (by kernel_rfl) ?_
    refine ls_p (d := some 21) (by kernel_rfl) (by rw [hb_3]; kernel_rfl) (p_sGt (by kernel_rfl) (by kernel_rfl) H) (fun x21 H => ?_)
    refine ls_pick_f (y := x21) (by kernel_rfl) (by rw [hb_3]; kernel_rfl) (by kernel_rfl) ?_
    refine ls_nil ?_
    refine then_normal ?_
    exact ⟨(fun i => ([x3, x20, x21]).getD i undef), x21, by kernel_rfl, HA, H⟩
  · refine ls_skip (d := some 19) (by kernel_rfl) (by rw [hb_3]; kernel_rfl) ?_
    refine ls_skip (d := some 20) (by kernel_rfl) (by rw [hb_3]; kernel_rfl) ?_
    refine ls_fr (b := ⟨([x0, x1, x2, x3, undef, undef, undef, undef, (.bool false), undef, undef, undef, undef, undef, undef, x2, x16, x17, x17, undef, undef, undef, undef, undef, undef, undef, undef, undef, undef, undef, undef, undef, undef, undef, undef, undef, undef, undef, undef, undef, undef, undef, undef, undef, undef, undef, undef, undef, undef, undef] ++ [undef, undef, undef, undef, undef, undef, undef, undef, undef, undef, undef, undef, undef, undef, undef, undef, undef, undef]).toArray, []⟩) (by kernel_rfl) ?_
    refine ls_skip (d := some 21) (by kernel_rfl) (by rw [hb_3]; kernel_rfl) ?_
    refine ls_pick_t (x := (.bool true)) (by kernel_rfl) (by rw [hb_3]; kernel_rfl) (by kernel_rfl) ?_
    refine ls_nil ?_
    refine then_normal ?_
    exact ⟨(fun i => ([undef, undef, undef]).getD i undef), (.bool true), by kernel_rfl, HA, H⟩
  · rintro _ w ⟨D, x22, rfl, HA, H⟩
    refine ls_nil ?_
    refine then_normal ?_
    refine fr_eq (b := ⟨([x0, x1, x2, x3, undef, undef, undef, undef, (.bool false), undef, undef, undef, undef, undef, undef, x2, x16, x17, x17, (D 0), (D 1), (D 2), x22, undef, undef, undef, undef, undef, undef, undef, undef, undef, undef, undef, undef, undef, undef, undef, undef, undef, undef, undef, undef, undef, undef, undef, undef, undef, undef, undef] ++ [undef, undef, undef, undef, undef, undef, undef, undef, undef, undef, undef, undef, undef, undef, undef, undef, undef, undef]).toArray, []⟩) (by kernel_rfl) ?_
    refine wp_if rfl H (fun H => ?_) (fun H => ?_)
    · refine wp_seq ?_
      refine lwp_list ?_
      refine ls_d (d := some 23) (by kernel_rfl) (by kernel_rfl) HA (d_call (by kernel_rfl) (by kernel_rfl) H) (fun x23 h w_1 H HA_1 => ?_)
      refine ls_assign (x := x23) (by kernel_rfl) (by kernel_rfl) ?_
      refine ls_nil ?_
      refine then_normal ?_
      refine fr_eq (b := ⟨([x0, x1, x2, x3, undef, undef, undef, undef, x23, undef, undef, undef, undef, undef, undef, x2, x16, x17, x17, (D 0), (D 1), (D 2), x22, x23, undef, undef, undef, undef, undef, undef, undef, undef, undef, undef, undef, undef, undef, undef, undef, undef, undef, undef, undef, undef, undef, undef, undef, undef, undef, undef] ++ [undef, undef, undef, undef, undef, undef, undef, undef, undef, undef, undef, undef, undef, undef, undef, undef, undef, undef]).toArray, []⟩) (by kernel_rfl) ?_
      refine wp_ret ?_
      refine then_ret ?_
      exact end1 (Try.results9) (by kernel_rfl) (by kernel_rfl) HA_1 H _ (.inr rfl)
    · refine wp_skip ?_
      refine then_normal ?_
      refine fr_eq (b := ⟨([x0, x1, x2, x3, undef, undef, undef, undef, (.bool false), undef, undef, undef, undef, undef, undef, x2, x16, x17, x17, (D 0), (D 1), (D 2), x22, undef, undef, undef, undef, undef, undef, undef, undef, undef, undef, undef, undef, undef, undef, undef, undef, undef, undef, undef, undef, undef, undef, undef, undef, undef, undef, undef] ++ [undef, undef, undef, undef, undef, undef, undef, undef, undef, undef, undef, undef, undef, undef, undef, undef, undef, undef]).toArray, []⟩) (by kernel_rfl) ?_
      refine wp_seq ?_
      refine lwp_list ?_
      refine ls_move (x := x0) (by kernel_rfl) (by kernel_rfl) ?_
      refine ls_move (x := x1) (by kernel_rfl) (by kernel_rfl) ?_
      refine ls_move (x := x2) (by kernel_rfl) (by kernel_rfl) ?_
      refine ls_d (d := some 28) (by kernel_rfl) (by kernel_rfl) HA (d_call (by kernel_rfl) (by kernel_rfl) H) (fun x28 h_1 w_2 H HA_2 => ?_)
      refine ls_move (x := x28) (by kernel_rfl) (by kernel_rfl) ?_
      refine ls_p (d := some 29) (by kernel_rfl) (by kernel_rfl) (p_tup (by kernel_rfl) H) (fun x29 H => ?_)
      refine ls_fr (b := ⟨([x0, x1, x2, x3, undef, undef, undef, undef, (.bool false), undef, undef, undef, undef, undef, undef, x2, x16, x17, x17, (D 0), (D 1), (D 2), x22, undef, x28, x0, x1, x2, x28, x29, undef, undef, undef, undef, undef, undef, undef, undef, undef, undef, undef, undef, undef, undef, undef, undef, undef, undef, undef, undef] ++ [undef, undef, undef, undef, undef, undef, undef, undef, undef, undef, undef, undef, undef, undef, undef, undef, undef, undef]).toArray, []⟩) (by kernel_rfl) ?_
      refine ls_p (d := some 30) (by kernel_rfl) (by kernel_rfl) (p_tup (by kernel_rfl) H) (fun x30 H => ?_)
      refine ls_assign (x := x29) (by kernel_rfl) (by kernel_rfl) ?_
      refine ls_assign (x := x30) (by kernel_rfl) (by kernel_rfl) ?_
      refine ls_nil ?_
      refine then_normal ?_
      refine fr_eq (b := ⟨([x0, x1, x2, x3, undef, undef, undef, undef, (.bool false), x29, x30, undef, undef, undef, undef, x2, x16, x17, x17, (D 0), (D 1), (D 2), x22, undef, x28, x0, x1, x2, x28, x29, x30, undef, undef, undef, undef, undef, undef, undef, undef, undef, undef, undef, undef, undef, undef, undef, undef, undef, undef, undef] ++ [undef, undef, undef, undef, undef, undef, undef, undef, undef, undef, undef, undef, undef, undef, undef, undef, undef, undef]).toArray, []⟩) (by kernel_rfl) ?_
      refine wp_seq ?_
      refine lwp_list ?_
      refine ls_move (x := x0) (by kernel_rfl) (by kernel_rfl) ?_
      refine ls_move (x := x30) (by kernel_rfl) (by kernel_rfl) ?_
      refine ls_move (x := x3) (by kernel_rfl) (by kernel_rfl) ?_
      refine ls_d (d := some 35) (by kernel_rfl) (by kernel_rfl) HA_2 (d_call (by kernel_rfl) (by kernel_rfl) H) (fun x35 h_2 w_3 H HA_3 => ?_)
      refine ls_move (x := x35) (by kernel_rfl) (by kernel_rfl) ?_
      refine ls_p (d := some 36) (by kernel_rfl) (by kernel_rfl) (p_tup (by kernel_rfl) H) (fun x36 H => ?_)
      refine ls_fr (b := ⟨([x0, x1, x2, x3, undef, undef, undef, undef, (.bool false), x29, x30, undef, undef, undef, undef, x2, x16, x17, x17, (D 0), (D 1), (D 2), x22, undef, x28, x0, x1, x2, x28, x29, x30, x35, x0, x30, x3, x35, x36, undef, undef, undef, undef, undef, undef, undef, undef, undef, undef, undef, undef, undef] ++ [undef, undef, undef, undef, undef, undef, undef, undef, undef, undef, undef, undef, undef, undef, undef, undef, undef, undef]).toArray, []⟩) (by kernel_rfl) ?_
      refine ls_p (d := some 37) (by kernel_rfl) (by kernel_rfl) (p_tup (by kernel_rfl) H) (fun x37 H => ?_)
      refine ls_assign (x := x36) (by kernel_rfl) (by kernel_rfl) ?_
      refine ls_assign (x := x37) (by kernel_rfl) (by kernel_rfl) ?_
      refine ls_nil ?_
      refine then_normal ?_
      refine fr_eq (b := ⟨([x0, x1, x2, x3, undef, undef, undef, undef, (.bool false), x29, x30, x36, x37, undef, undef, x2, x16, x17, x17, (D 0), (D 1), (D 2), x22, undef, x28, x0, x1, x2, x28, x29, x30, x35, x0, x30, x3, x35, x36, x37, undef, undef, undef, undef, undef, undef, undef, undef, undef, undef, undef, undef] ++ [undef, undef, undef, undef, undef, undef, undef, undef, undef, undef, undef, undef, undef, undef, undef, undef, undef, undef]).toArray, []⟩) (by kernel_rfl) ?_
      refine wp_seq ?_
      refine lwp_list ?_
      refine ls_move (x := x0) (by kernel_rfl) (by kernel_rfl) ?_
      refine ls_move (x := x1) (by kernel_rfl) (by kernel_rfl) ?_
      refine ls_d (d := some 41) (by kernel_rfl) (by kernel_rfl) HA_3 (d_slit (zc := #[]) Try.underlying56 Try.sizeOf5 (by decide) (.inl ⟨(by kernel_rfl), (by kernel_rfl)⟩) (by kernel_rfl) (by kernel_rfl) H) (fun x41 h_3 w_4 H HA_4 => ?_)
      refine ls_move (x := x2) (by kernel_rfl) (by kernel_rfl) ?_
      refine ls_d (d := some 43) (by kernel_rfl) (by kernel_rfl) HA_4 (d_app (z := #[.int .u8 0]) Try.underlying56 Try.underlying56 (.inl ⟨_, rfl⟩) Try.typeInfo5 (by kernel_rfl) Try.sizeOf5 Try.zeroValue5 (by kernel_rfl) (by kernel_rfl) (by kernel_rfl) H) (fun x43 h_4 w_5 H HA_5 => ?_)
      refine ls_move (x := x3) (by kernel_rfl) (by kernel_rfl) ?_
      refine ls_fr (b := ⟨([x0, x1, x2, x3, undef, undef, undef, undef, (.bool false), x29, x30, x36, x37, undef, undef, x2, x16, x17, x17, (D 0), (D 1), (D 2), x22, undef, x28, x0, x1, x2, x28, x29, x30, x35, x0, x30, x3, x35, x36, x37, undef, x0, x1, x41, x2, x43, x3, undef, undef, undef, undef, undef] ++ [undef, undef, undef, undef, undef, undef, undef, undef, undef, undef, undef, undef, undef, undef, undef, undef, undef, undef]).toArray, []⟩) (by kernel_rfl) ?_
      refine ls_d (d := some 45) (by kernel_rfl) (by kernel_rfl) HA_5 (d_app (z := #[.int .u8 0]) Try.underlying56 Try.underlying56 (.inl ⟨_, rfl⟩) Try.typeInfo5 (by kernel_rfl) Try.sizeOf5 Try.zeroValue5 (by kernel_rfl) (by kernel_rfl) (by kernel_rfl) H) (fun x45 h_5 w_6 H HA_6 => ?_)
      refine ls_d (d := some 46) (by kernel_rfl) (by kernel_rfl) HA_6 (d_call (by kernel_rfl) (by kernel_rfl) H) (fun x46 h_6 w_7 H HA_7 => ?_)
      refine ls_move (x := x46) (by kernel_rfl) (by kernel_rfl) ?_
      refine ls_p (d := some 47) (by kernel_rfl) (by kernel_rfl) (p_tup (by kernel_rfl) H) (fun x47 H => ?_)
      refine ls_p (d := some 48) (by kernel_rfl) (by kernel_rfl) (p_tup (by kernel_rfl) H) (fun x48 H => ?_)
      refine ls_assign (x := x47) (by kernel_rfl) (by kernel_rfl) ?_
      refine ls_fr (b := ⟨([x0, x1, x2, x3, undef, undef, undef, undef, (.bool false), x29, x30, x36, x37, x47, undef, x2, x16, x17, x17, (D 0), (D 1), (D 2), x22, undef, x28, x0, x1, x2, x28, x29, x30, x35, x0, x30, x3, x35, x36, x37, x46, x0, x1, x41, x2, x43, x3, x45, x46, x47, x48, undef] ++ [undef, undef, undef, undef, undef, undef, undef, undef, undef, undef, undef, undef, undef, undef, undef, undef, undef, undef]).toArray, []⟩) (by kernel_rfl) ?_
      refine ls_assign (x := x48) (by kernel_rfl) (by kernel_rfl) ?_
      refine ls_nil ?_
      refine then_normal ?_
      refine fr_eq (b := ⟨([x0, x1, x2, x3, undef, undef, undef, undef, (.bool false), x29, x30, x36, x37, x47, x48, x2, x16, x17, x17, (D 0), (D 1), (D 2), x22, undef, x28, x0, x1, x2, x28, x29, x30, x35, x0, x30, x3, x35, x36, x37, x46, x0, x1, x41, x2, x43, x3, x45, x46, x47, x48, undef] ++ [undef, undef, undef, undef, undef, undef, undef, undef, undef, undef, undef, undef, undef, undef, undef, undef, undef, undef]).toArray, []⟩) (by kernel_rfl) ?_
      refine wp_seq ?_
      refine lwp_list ?_
      refine ls_move (x := x47) (by kernel_rfl) (by kernel_rfl) ?_
      refine ls_d (d := some 50) (by kernel_rfl) (by kernel_rfl) HA_7 (d_slit (zc := #[]) Try.underlying56 Try.sizeOf5 (by decide) (.inl ⟨(by kernel_rfl), (by kernel_rfl)⟩) (by kernel_rfl) (by kernel_rfl) H) (fun x50 h_7 w_8 H HA_8 => ?_)
      refine ls_move (x := x29) (by kernel_rfl) (by kernel_rfl) ?_
      refine ls_d (d := some 52) (by kernel_rfl) (by kernel_rfl) HA_8 (d_app (z := #[.int .u8 0]) Try.underlying56 Try.underlying56 (.inl ⟨_, rfl⟩) Try.typeInfo5 (by kernel_rfl) Try.sizeOf5 Try.zeroValue5 (by kernel_rfl) (by kernel_rfl) (by kernel_rfl) H) (fun x52 h_8 w_9 H HA_9 => ?_)
      refine ls_move (x := x36) (by kernel_rfl) (by kernel_rfl) ?_
      refine ls_d (d := some 54) (by kernel_rfl) (by kernel_rfl) HA_9 (d_app (z := #[.int .u8 0]) Try.underlying56 Try.underlying56 (.inl ⟨_, rfl⟩) Try.typeInfo5 (by kernel_rfl) Try.sizeOf5 Try.zeroValue5 (by kernel_rfl) (by kernel_rfl) (by kernel_rfl) H) (fun x54 h_9 w_10 H HA_10 => ?_)
      refine ls_fr (b := ⟨([x0, x1, x2, x3, undef, undef, undef, undef, (.bool false), x29, x30, x36, x37, x47, x48, x2, x16, x17, x17, (D 0), (D 1), (D 2), x22, undef, x28, x0, x1, x2, x28, x29, x30, x35, x0, x30, x3, x35, x36, x37, x46, x0, x1, x41, x2, x43, x3, x45, x46, x47, x48, x47] ++ [x50, x29, x52, x36, x54, undef, undef, undef, undef, undef, undef, undef, undef, undef, undef, undef, undef, undef]).toArray, []⟩) (by kernel_rfl) ?_
      refine ls_d (d := some 55) (by kernel_rfl) (by kernel_rfl) HA_10 (d_call (by kernel_rfl) (by kernel_rfl) H) (fun x55 h_10 w_11 H HA_11 => ?_)
      refine ls_move (x := x55) (by kernel_rfl) (by kernel_rfl) ?_
      refine ls_and [(), (), (), (), (), (), (), ()] (fun K a w => ∃ (D_1 : Nat → Value) (x64 : Value), a = ⟨([x0, x1, x2, x3, undef, undef, undef, undef, (.bool false), x29, x30, x36, x37, x47, x48, x2, x16, x17, x17, (D 0), (D 1), (D 2), x22, undef, x28, x0, x1, x2, x28, x29, x30, x35, x0, x30, x3, x35, x36, x37, x46, x0, x1, x41, x2, x43, x3, x45, x46, x47, x48, x47] ++ [x50, x29, x52, x36, x54, x55, x55, (D_1 0), (D_1 1), (D_1 2), (D_1 3), (D_1 4), (D_1 5), (D_1 6), x64, undef, undef, undef]).toArray, []⟩ ∧ At w0 w h_10 ∧ K x64) H (fun hb_1 H => ?_) (fun hb_1 H => ?_) ?_
      · refine ls_move (x := x48) (by rw [hb_1]; kernel_rfl) (by kernel_rfl) ?_
        refine ls_move (x := x37) (by rw [hb_1]; kernel_rfl) (by kernel_rfl) ?_
        refine ls_p (d := some 59) (by kernel_rfl) (by rw [hb_1]; kernel_rfl) (p_sEq (by kernel_rfl) (by kernel_rfl) H) (fun x59 H => ?_)
        refine ls_move (x := x59) (by rw [hb_1]; kernel_rfl) (by kernel_rfl) ?_
        refine ls_fr (b := ⟨([x0, x1, x2, x3, undef, undef, undef, undef, (.bool false), x29, x30, x36, x37, x47, x48, x2, x16, x17, x17, (D 0), (D 1), (D 2), x22, undef, x28, x0, x1, x2, x28, x29, x30, x35, x0, x30, x3, x35, x36, x37, x46, x0, x1, x41, x2, x43, x3, x45, x46, x47, x48, x47] ++ [x50, x29, x52, x36, x54, x55, x55, x48, x37, x59, x59, undef, undef, undef, undef, undef, undef, undef]).toArray, []⟩) (by kernel_rfl) ?_
        refine ls_or [(), (), ()] (fun K a w => ∃ (D_3 : Nat → Value) (x63 : Value), a = ⟨([x0, x1, x2, x3, undef, undef, undef, undef, (.bool false), x29, x30, x36, x37, x47, x48, x2, x16, x17, x17, (D 0), (D 1), (D 2), x22, undef, x28, x0, x1, x2, x28, x29, x30, x35, x0, x30, x3, x35, x36, x37, x46, x0, x1, x41, x2, x43, x3, x45, x46, x47, x48, x47] ++ [x50, x29, x52, x36, x54, x55, x55, x48, x37, x59, x59, (D_3 0), (D_3 1), x63, undef, undef, undef, undef]).toArray, []⟩ ∧ At w0 w h_10 ∧ K x63) H (fun hb_2 H => ?_) (fun hb_2 H => ?_) ?_
        · refine ls_move (x := x30) (by rw [hb_2]; kernel_rfl) (by kernel_rfl) ?_
          refine ls_p (d := some 62) (by kernel_rfl) (by rw [hb_2]; kernel_rfl) (p_sGt (by kernel_rfl) (by kernel_rfl) H) (fun x62 H => ?_)
          refine ls_pick_f (y := x62) (by rw [hb_1]; kernel_rfl) (by rw [hb_2]; kernel_rfl) (by kernel_rfl) ?_
          refine ls_nil ?_
          refine then_normal ?_
          exact ⟨(fun i => ([x30, x62]).getD i undef), x62, by kernel_rfl, HA_11, H⟩
        · refine ls_skip (d := some 61) (by kernel_rfl) (by rw [hb_2]; kernel_rfl) ?_
          refine ls_skip (d := some 62) (by kernel_rfl) (by rw [hb_2]; kernel_rfl) ?_
          refine ls_pick_t (x := (.bool true)) (by rw [hb_1]; kernel_rfl) (by rw [hb_2]; kernel_rfl) (by kernel_rfl) ?_
          refine ls_nil ?_
          refine then_normal ?_
          exact ⟨(fun i => ([undef, undef]).getD i undef), (.bool true), by kernel_rfl, HA_11, H⟩
        · rintro _ w_15 ⟨D_3, x63, rfl, HA_15, H⟩
          refine ls_pick_t (x := x63) (by kernel_rfl) (by rw [hb_1]; kernel_rfl) (by kernel_rfl) ?_
          refine ls_nil ?_
          refine then_normal ?_
          exact ⟨(fun i => ([x48, x37, x59, x59, (D_3 0), (D_3 1), x63]).getD i undef), x63, by kernel_rfl, HA_15, H⟩
      · refine ls_skip (d := some 57) (by kernel_rfl) (by rw [hb_1]; kernel_rfl) ?_
        refine ls_skip (d := some 58) (by kernel_rfl) (by rw [hb_1]; kernel_rfl) ?_
        refine ls_skip (d := some 59) (by kernel_rfl) (by rw [hb_1]; kernel_rfl) ?_
        refine ls_skip (d := some 60) (by kernel_rfl) (by rw [hb_1]; kernel_rfl) ?_
        refine ls_fr (b := ⟨([x0, x1, x2, x3, undef, undef, undef, undef, (.bool false), x29, x30, x36, x37, x47, x48, x2, x16, x17, x17, (D 0), (D 1), (D 2), x22, undef, x28, x0, x1, x2, x28, x29, x30, x35, x0, x30, x3, x35, x36, x37, x46, x0, x1, x41, x2, x43, x3, x45, x46, x47, x48, x47] ++ [x50, x29, x52, x36, x54, x55, x55, undef, undef, undef, undef, undef, undef, undef, undef, undef, undef, undef]).toArray, []⟩) (by kernel_rfl) ?_
        refine ls_skip (d := some 61) (by kernel_rfl) (by kernel_rfl) ?_
        refine ls_skip (d := some 62) (by kernel_rfl) (by kernel_rfl) ?_
        refine ls_skip (d := some 63) (by kernel_rfl) (by rw [hb_1]; kernel_rfl) ?_
        refine ls_pick_f (y := (.bool false)) (by kernel_rfl) (by rw [hb_1]; kernel_rfl) (by kernel_rfl) ?_
        refine ls_nil ?_
        refine then_normal ?_
        exact ⟨(fun i => ([undef, undef, undef, undef, undef, undef, undef]).getD i undef), (.bool false), by kernel_rfl, HA_11, H⟩
      · rintro _ w_12 ⟨D_1, x64, rfl, HA_12, H⟩
        refine ls_move (x := x64) (by kernel_rfl) (by kernel_rfl) ?_
        refine ls_andh [(), ()] (fun K a w => ∃ (D_2 : Nat → Value) (x67 : Value) (h_11 : Heap), a = ⟨([x0, x1, x2, x3, undef, undef, undef, undef, (.bool false), x29, x30, x36, x37, x47, x48, x2, x16, x17, x17, (D 0), (D 1), (D 2), x22, undef, x28, x0, x1, x2, x28, x29, x30, x35, x0, x30, x3, x35, x36, x37, x46, x0, x1, x41, x2, x43, x3, x45, x46, x47, x48, x47] ++ [x50, x29, x52, x36, x54, x55, x55, (D_1 0), (D_1 1), (D_1 2), (D_1 3), (D_1 4), (D_1 5), (D_1 6), x64, x64, (D_2 0), x67]).toArray, []⟩ ∧ At w0 w h_11 ∧ K x67 h_11) H (fun hb H => ?_) (fun hb H => ?_) ?_
        · refine ls_d (d := some 66) (by kernel_rfl) (by rw [hb]; kernel_rfl) HA_12 (d_call (by kernel_rfl) (by kernel_rfl) H) (fun x66 h_12 w_14 H HA_14 => ?_)
          refine ls_pick_t (x := x66) (by kernel_rfl) (by rw [hb]; kernel_rfl) (by kernel_rfl) ?_
          refine ls_nil ?_
          refine then_normal ?_
          exact ⟨(fun i => ([x66]).getD i undef), x66, h_12, by kernel_rfl, HA_14, H⟩
        · refine ls_skip (d := some 66) (by kernel_rfl) (by rw [hb]; kernel_rfl) ?_
          refine ls_pick_f (y := (.bool false)) (by kernel_rfl) (by rw [hb]; kernel_rfl) (by kernel_rfl) ?_
          refine ls_nil ?_
          refine then_normal ?_
          exact ⟨(fun i => ([undef]).getD i undef), (.bool false), h_10, by kernel_rfl, HA_12, H⟩
        · rintro _ w_13 ⟨D_2, x67, h_11, rfl, HA_13, H⟩
          refine ls_assign (x := x67) (by kernel_rfl) (by kernel_rfl) ?_
          refine ls_nil ?_
          refine then_normal ?_
          refine fr_eq (b := ⟨([x0, x1, x2, x3, undef, undef, undef, undef, x67, x29, x30, x36, x37, x47, x48, x2, x16, x17, x17, (D 0), (D 1), (D 2), x22, undef, x28, x0, x1, x2, x28, x29, x30, x35, x0, x30, x3, x35, x36, x37, x46, x0, x1, x41, x2, x43, x3, x45, x46, x47, x48, x47] ++ [x50, x29, x52, x36, x54, x55, x55, (D_1 0), (D_1 1), (D_1 2), (D_1 3), (D_1 4), (D_1 5), (D_1 6), x64, x64, (D_2 0), x67]).toArray, []⟩) (by kernel_rfl) ?_
          refine wp_ret ?_
          exact end1 (Try.results9) (by kernel_rfl) (by kernel_rfl) HA_13 H _ (.inr rfl)

end Go.Proofs.Ythhpieidlpjbmaa
