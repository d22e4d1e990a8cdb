/- Texts in one. -/
import Derived.Test.YtmhhjpfkipficaaDoorFnC
import Derived.Test.YtmhhjpfkipficaaDoorKm4
section
/- The shallow reading of one function, and that the function does it. Written by a program. -/
set_option linter.unusedVariables false
namespace Go.Proofs.YtmhhjpfkipficaaDoor
open Go Go.HW

def betonylaw24_ScreenMoves_S (x0 x1 x2 x3 x4 x5 : Value) (h : Heap) (R : Value → Heap → Prop) : Prop :=
  sConv .i64 x0 fun x20 =>
  sRem .i64 x20 (.int .i64 16) fun x21 =>
  sAdd .i64 (.int .i64 1) x21 fun x22 =>
  sConv .i64 x1 fun x24 =>
  sRem .i64 x24 (.int .i64 16) fun x25 =>
  sAdd .i64 (.int .i64 1) x25 fun x26 =>
  screen_New_c x22 x26 h fun x29 h => 
  sEqlNil x29 fun x31 =>
  sIf x31 (R (.bool false) h) (screen_Screen_Move_c x29 x2 x3 h fun x35 h_1 => 
  screen_Screen_Cursor_c x29 h_1 fun x37 h_2 => 
  sNew h_2 #[.int .i64 0, .int .i64 0, .bool false] 38 fun x16 h_3 => 
  sStN h_3 x16 x37 3 fun h_4 => 
  sLdN h_4 x16 3 fun x38 =>
  sSub .i64 x22 (.int .i64 1) fun x41 =>
  sMin x2 x41 fun x42 =>
  sMax (.int .i64 0) x42 fun x43 =>
  sSub .i64 x26 (.int .i64 1) fun x46 =>
  sMin x3 x46 fun x47 =>
  sMax (.int .i64 0) x47 fun x48 =>
  sBuild #[.int .i64 0, .int .i64 0, .bool false] [(0, 1, x43), (1, 1, x48)] fun x49 =>
  sNeqAgg x38 x49 [some .i64, some .i64, none] fun x50 =>
  sIf x50 (R (.bool false) h_4) (screen_Screen_Shift_c x29 x4 x5 h_4 fun x54 h_5 => 
  screen_Screen_Cursor_c x29 h_5 fun x56 h_6 => 
  sNew h_6 #[.int .i64 0, .int .i64 0, .bool false] 38 fun x17 h_7 => 
  sStN h_7 x17 x56 3 fun h_8 => 
  sOff x16 0 fun x58 =>
  sLd h_8 x58 fun x59 =>
  sNeg .i64 x59 fun x60 =>
  sGe x4 x60 fun x61 =>
  sAnd x61 (fun k_9 =>
  sSub .i64 x22 (.int .i64 1) fun x65 =>
  sOff x16 0 fun x66 =>
  sLd h_8 x66 fun x67 =>
  sSub .i64 x65 x67 fun x68 =>
  sLe x4 x68 fun x69 =>
  k_9 x69) fun x70 =>
  sAnd x70 (fun k_8 =>
  sOff x16 1 fun x73 =>
  sLd h_8 x73 fun x74 =>
  sNeg .i64 x74 fun x75 =>
  sGe x5 x75 fun x76 =>
  k_8 x76) fun x77 =>
  sAnd x77 (fun k_7 =>
  sSub .i64 x26 (.int .i64 1) fun x81 =>
  sOff x16 1 fun x82 =>
  sLd h_8 x82 fun x83 =>
  sSub .i64 x81 x83 fun x84 =>
  sLe x5 x84 fun x85 =>
  k_7 x85) fun x86 =>
  sAnd x86 (fun k_5 =>
  sOff x17 0 fun x89 =>
  sLd h_8 x89 fun x90 =>
  sOff x16 0 fun x91 =>
  sLd h_8 x91 fun x92 =>
  sAdd .i64 x92 x4 fun x94 =>
  sNe x90 x94 fun x95 =>
  sOr x95 (fun k_6 =>
  sOff x17 1 fun x97 =>
  sLd h_8 x97 fun x98 =>
  sOff x16 1 fun x99 =>
  sLd h_8 x99 fun x100 =>
  sAdd .i64 x100 x5 fun x102 =>
  sNe x98 x102 fun x103 =>
  k_6 x103) fun x104 =>
  k_5 x104) fun x105 =>
  sIf x105 (R (.bool false) h_8) (screen_Screen_Move_c x29 (.int .i64 0) (.int .i64 0) h_8 fun x107 h_9 => 
  sOff x17 0 fun x108 =>
  sLd h_9 x108 fun x109 =>
  sGe x109 (.int .i64 0) fun x110 =>
  sAnd x110 (fun k_4 =>
  sOff x17 0 fun x112 =>
  sLd h_9 x112 fun x113 =>
  sLt x113 x22 fun x115 =>
  k_4 x115) fun x116 =>
  sAnd x116 (fun k_3 =>
  sOff x17 1 fun x118 =>
  sLd h_9 x118 fun x119 =>
  sGe x119 (.int .i64 0) fun x120 =>
  k_3 x120) fun x121 =>
  sAnd x121 (fun k_2 =>
  sOff x17 1 fun x123 =>
  sLd h_9 x123 fun x124 =>
  sLt x124 x26 fun x126 =>
  k_2 x126) fun x127 =>
  sAndH x127 h_9 (fun k_1 =>
  screen_Screen_Cursor_c x29 h_9 fun x130 h_13 => 
  sBuild #[.int .i64 0, .int .i64 0, .bool false] [] fun x131 =>
  sEqlAgg x130 x131 [some .i64, some .i64, none] fun x132 =>
  k_1 x132 h_13) fun x133 h_10 =>
  sAndH x133 h_10 (fun k =>
  betonylaw24_awake_c  h_10 fun x135 h_12 => 
  k x135 h_12) fun x136 h_11 =>
  R x136 h_11)))
set_option maxHeartbeats 4000000 in
set_option maxRecDepth 100000 in
theorem betonylaw24_ScreenMoves_runs {x0 x1 x2 x3 x4 x5 : Value} {h : Heap} {R : Value → Heap → Prop} (H : betonylaw24_ScreenMoves_S x0 x1 x2 x3 x4 x5 h R) : betonylaw24_ScreenMoves_c x0 x1 x2 x3 x4 x5 h R := by
  unfold betonylaw24_ScreenMoves_S at H
  refine runs_of (b := ⟨([x0, x1, x2, x3, x4, x5, undef, undef, undef, undef, undef, undef, undef, undef, undef, undef, undef, undef, undef, undef, undef, undef, undef, undef, undef, undef, undef, undef, undef, undef, undef, undef, undef, undef, undef, undef, undef, undef, undef, undef, undef, undef, undef, undef, undef, undef, undef, undef, undef, undef] ++ [undef, undef, undef, undef, undef, undef, undef, undef, undef, undef, undef, undef, undef, undef, undef, undef, undef, undef, undef, undef, undef, undef, undef, undef, undef, undef, undef, undef, undef, undef, undef, undef, undef, undef, undef, undef, undef, undef, undef, undef, undef, undef, undef, undef, undef, undef, undef, undef, undef, undef] ++ [undef, undef, undef, undef, undef, undef, undef, undef, undef, undef, undef, undef, undef, undef, undef, undef, undef, undef, undef, undef, undef, undef, undef, undef, undef, undef, undef, undef, undef, undef, undef, undef, undef, undef, undef, undef, undef]).toArray, []⟩) Tryd.call4 Tryd.func4 rfl (by kernel_rfl) (fun w0 HA => ?_)
  refine wp_seq ?_
  refine lwp_list ?_
  refine ls_assign (x := (.bool false)) (by kernel_rfl) (by kernel_rfl) ?_
  refine ls_nil ?_
  refine then_normal ?_
  refine fr_eq (b := ⟨([x0, x1, x2, x3, x4, x5, undef, undef, undef, undef, undef, undef, (.bool false), undef, undef, undef, undef, undef, undef, undef, undef, undef, undef, undef, undef, undef, undef, undef, undef, undef, undef, undef, undef, undef, undef, undef, undef, undef, undef, undef, undef, undef, undef, undef, undef, undef, undef, undef, undef, undef] ++ [undef, undef, undef, undef, undef, undef, undef, undef, undef, undef, undef, undef, undef, undef, undef, undef, undef, undef, undef, undef, undef, undef, undef, undef, undef, undef, undef, undef, undef, undef, undef, undef, undef, undef, undef, undef, undef, undef, undef, undef, undef, undef, undef, undef, undef, undef, undef, undef, undef, undef] ++ [undef, undef, undef, undef, undef, undef, undef, undef, undef, undef, undef, undef, undef, undef, undef, undef, undef, undef, undef, undef, undef, undef, undef, undef, undef, undef, undef, undef, undef, undef, undef, undef, undef, undef, undef, undef, undef]).toArray, []⟩) (by kernel_rfl) ?_
  refine wp_seq ?_
  refine lwp_list ?_
  refine ls_move (x := x0) (by kernel_rfl) (by kernel_rfl) ?_
  refine ls_p (d := some 20) (by kernel_rfl) (by kernel_rfl) (p_conv Tryd.underlying5 Tryd.underlying3 (by kernel_rfl) H) (fun x20 H => ?_)
  refine ls_p (d := some 21) (by kernel_rfl) (by kernel_rfl) (p_rem (by kernel_rfl) (by kernel_rfl) H) (fun x21 H => ?_)
  refine ls_p (d := some 22) (by kernel_rfl) (by kernel_rfl) (p_add (by kernel_rfl) (by kernel_rfl) H) (fun x22 H => ?_)
  refine ls_move (x := x1) (by kernel_rfl) (by kernel_rfl) ?_
  refine ls_p (d := some 24) (by kernel_rfl) (by kernel_rfl) (p_conv Tryd.underlying5 Tryd.underlying3 (by kernel_rfl) H) (fun x24 H => ?_)
  refine ls_fr (b := ⟨([x0, x1, x2, x3, x4, x5, undef, undef, undef, undef, undef, undef, (.bool false), undef, undef, undef, undef, undef, undef, x0, x20, x21, x22, x1, x24, undef, undef, undef, undef, undef, undef, undef, undef, undef, undef, undef, undef, undef, undef, undef, undef, undef, undef, undef, undef, undef, undef, undef, undef, undef] ++ [undef, undef, undef, undef, undef, undef, undef, undef, undef, undef, undef, undef, undef, undef, undef, undef, undef, undef, undef, undef, undef, undef, undef, undef, undef, undef, undef, undef, undef, undef, undef, undef, undef, undef, undef, undef, undef, undef, undef, undef, undef, undef, undef, undef, undef, undef, undef, undef, undef, undef] ++ [undef, undef, undef, undef, undef, undef, undef, undef, undef, undef, undef, undef, undef, undef, undef, undef, undef, undef, undef, undef, undef, undef, undef, undef, undef, undef, undef, undef, undef, undef, undef, undef, undef, undef, undef, undef, undef]).toArray, []⟩) (by kernel_rfl) ?_
  refine ls_p (d := some 25) (by kernel_rfl) (by kernel_rfl) (p_rem (by kernel_rfl) (by kernel_rfl) H) (fun x25 H => ?_)
  refine ls_p (d := some 26) (by kernel_rfl) (by kernel_rfl) (p_add (by kernel_rfl) (by kernel_rfl) H) (fun x26 H => ?_)
  refine ls_assign (x := x22) (by kernel_rfl) (by kernel_rfl) ?_
  refine ls_assign (x := x26) (by kernel_rfl) (by kernel_rfl) ?_
  refine ls_nil ?_
  refine then_normal ?_
  refine fr_eq (b := ⟨([x0, x1, x2, x3, x4, x5, undef, undef, undef, undef, undef, undef, (.bool false), x22, x26, undef, undef, undef, undef, x0, x20, x21, x22, x1, x24, x25, x26, undef, undef, undef, undef, undef, undef, undef, undef, undef, undef, undef, undef, undef, undef, undef, undef, undef, undef, undef, undef, undef, undef, undef] ++ [undef, undef, undef, undef, undef, undef, undef, undef, undef, undef, undef, undef, undef, undef, undef, undef, undef, undef, undef, undef, undef, undef, undef, undef, undef, undef, undef, undef, undef, undef, undef, undef, undef, undef, undef, undef, undef, undef, undef, undef, undef, undef, undef, undef, undef, undef, undef, undef, undef, undef] ++ [undef, undef, undef, undef, undef, undef, undef, undef, undef, undef, undef, undef, undef, undef, undef, undef, undef, undef, undef, undef, undef, undef, undef, undef, undef, undef, undef, undef, undef, undef, undef, undef, undef, undef, undef, undef, undef]).toArray, []⟩) (by kernel_rfl) ?_
  refine wp_seq ?_
  refine lwp_list ?_
  refine ls_move (x := x22) (by kernel_rfl) (by kernel_rfl) ?_
  refine ls_move (x := x26) (by kernel_rfl) (by kernel_rfl) ?_
  refine ls_d (d := some 29) (by kernel_rfl) (by kernel_rfl) HA (d_call (by kernel_rfl) (by kernel_rfl) H) (fun x29 h w H HA => ?_)
  refine ls_assign (x := x29) (by kernel_rfl) (by kernel_rfl) ?_
  refine ls_nil ?_
  refine then_normal ?_
  refine fr_eq (b := ⟨([x0, x1, x2, x3, x4, x5, undef, undef, undef, undef, undef, undef, (.bool false), x22, x26, x29, undef, undef, undef, x0, x20, x21, x22, x1, x24, x25, x26, x22, x26, x29, undef, undef, undef, undef, undef, undef, undef, undef, undef, undef, undef, undef, undef, undef, undef, undef, undef, undef, undef, undef] ++ [undef, undef, undef, undef, undef, undef, undef, undef, undef, undef, undef, undef, undef, undef, undef, undef, undef, undef, undef, undef, undef, undef, undef, undef, undef, undef, undef, undef, undef, undef, undef, undef, undef, undef, undef, undef, undef, undef, undef, undef, undef, undef, undef, undef, undef, undef, undef, undef, undef, undef] ++ [undef, undef, undef, undef, undef, undef, undef, undef, undef, undef, undef, undef, undef, undef, undef, undef, undef, undef, undef, undef, undef, undef, undef, undef, undef, undef, undef, undef, undef, undef, undef, undef, undef, undef, undef, undef, undef]).toArray, []⟩) (by kernel_rfl) ?_
  refine wp_seq ?_
  refine wp_seq ?_
  refine lwp_list ?_
  refine ls_move (x := x29) (by kernel_rfl) (by kernel_rfl) ?_
  refine ls_p (d := some 31) (by kernel_rfl) (by kernel_rfl) (p_eqlNil Tryd.underlying23 (by kernel_rfl) (by kernel_rfl) H) (fun x31 H => ?_)
  refine ls_nil ?_
  refine then_normal ?_
  refine fr_eq (b := ⟨([x0, x1, x2, x3, x4, x5, undef, undef, undef, undef, undef, undef, (.bool false), x22, x26, x29, undef, undef, undef, x0, x20, x21, x22, x1, x24, x25, x26, x22, x26, x29, x29, x31, undef, undef, undef, undef, undef, undef, undef, undef, undef, undef, undef, undef, undef, undef, undef, undef, undef, undef] ++ [undef, undef, undef, undef, undef, undef, undef, undef, undef, undef, undef, undef, undef, undef, undef, undef, undef, undef, undef, undef, undef, undef, undef, undef, undef, undef, undef, undef, undef, undef, undef, undef, undef, undef, undef, undef, undef, undef, undef, undef, undef, undef, undef, undef, undef, undef, undef, undef, undef, undef] ++ [undef, undef, undef, undef, undef, undef, undef, undef, undef, undef, undef, undef, undef, undef, undef, undef, undef, undef, undef, undef, undef, undef, undef, undef, undef, undef, undef, undef, undef, undef, undef, undef, undef, undef, undef, undef, undef]).toArray, []⟩) (by kernel_rfl) ?_
  refine wp_if rfl H (fun H => ?_) (fun H => ?_)
  · refine wp_seq ?_
    refine lwp_list ?_
    refine ls_assign (x := (.bool false)) (by kernel_rfl) (by kernel_rfl) ?_
    refine ls_nil ?_
    refine then_normal ?_
    refine fr_eq (b := ⟨([x0, x1, x2, x3, x4, x5, undef, undef, undef, undef, undef, undef, (.bool false), x22, x26, x29, undef, undef, undef, x0, x20, x21, x22, x1, x24, x25, x26, x22, x26, x29, x29, x31, undef, undef, undef, undef, undef, undef, undef, undef, undef, undef, undef, undef, undef, undef, undef, undef, undef, undef] ++ [undef, undef, undef, undef, undef, undef, undef, undef, undef, undef, undef, undef, undef, undef, undef, undef, undef, undef, undef, undef, undef, undef, undef, undef, undef, undef, undef, undef, undef, undef, undef, undef, undef, undef, undef, undef, undef, undef, undef, undef, undef, undef, undef, undef, undef, undef, undef, undef, undef, undef] ++ [undef, undef, undef, undef, undef, undef, undef, undef, undef, undef, undef, undef, undef, undef, undef, undef, undef, undef, undef, undef, undef, undef, undef, undef, undef, undef, undef, undef, undef, undef, undef, undef, undef, undef, undef, undef, undef]).toArray, []⟩) (by kernel_rfl) ?_
    refine wp_ret ?_
    refine then_ret ?_
    exact end1 (Tryd.results4) (by kernel_rfl) (by kernel_rfl) HA H _ (.inr rfl)
  · refine wp_skip ?_
    refine then_normal ?_
    refine fr_eq (b := ⟨([x0, x1, x2, x3, x4, x5, undef, undef, undef, undef, undef, undef, (.bool false), x22, x26, x29, undef, undef, undef, x0, x20, x21, x22, x1, x24, x25, x26, x22, x26, x29, x29, x31, undef, undef, undef, undef, undef, undef, undef, undef, undef, undef, undef, undef, undef, undef, undef, undef, undef, undef] ++ [undef, undef, undef, undef, undef, undef, undef, undef, undef, undef, undef, undef, undef, undef, undef, undef, undef, undef, undef, undef, undef, undef, undef, undef, undef, undef, undef, undef, undef, undef, undef, undef, undef, undef, undef, undef, undef, undef, undef, undef, undef, undef, undef, undef, undef, undef, undef, undef, undef, undef] ++ [undef, undef, undef, undef, undef, undef, undef, undef, undef, undef, undef, undef, undef, undef, undef, undef, undef, undef, undef, undef, undef, undef, undef, undef, undef, undef, undef, undef, undef, undef, undef, undef, undef, undef, undef, undef, undef]).toArray, []⟩) (by kernel_rfl) ?_
    refine wp_seq ?_
    refine lwp_list ?_
    refine ls_move (x := x29) (by kernel_rfl) (by kernel_rfl) ?_
    refine ls_move (x := x2) (by kernel_rfl) (by kernel_rfl) ?_
    refine ls_move (x := x3) (by kernel_rfl) (by kernel_rfl) ?_
    refine ls_d (d := some 35) (by kernel_rfl) (by kernel_rfl) HA (d_call (by kernel_rfl) (by kernel_rfl) H) (fun x35 h_1 w_1 H HA_1 => ?_)
    refine ls_nil ?_
    refine then_normal ?_
    refine fr_eq (b := ⟨([x0, x1, x2, x3, x4, x5, undef, undef, undef, undef, undef, undef, (.bool false), x22, x26, x29, undef, undef, undef, x0, x20, x21, x22, x1, x24, x25, x26, x22, x26, x29, x29, x31, x29, x2, x3, x35, undef, undef, undef, undef, undef, undef, undef, undef, undef, undef, undef, undef, undef, undef] ++ [undef, undef, undef, undef, undef, undef, undef, undef, undef, undef, undef, undef, undef, undef, undef, undef, undef, undef, undef, undef, undef, undef, undef, undef, undef, undef, undef, undef, undef, undef, undef, undef, undef, undef, undef, undef, undef, undef, undef, undef, undef, undef, undef, undef, undef, undef, undef, undef, undef, undef] ++ [undef, undef, undef, undef, undef, undef, undef, undef, undef, undef, undef, undef, undef, undef, undef, undef, undef, undef, undef, undef, undef, undef, undef, undef, undef, undef, undef, undef, undef, undef, undef, undef, undef, undef, undef, undef, undef]).toArray, []⟩) (by kernel_rfl) ?_
    refine wp_seq ?_
    refine lwp_list ?_
    refine ls_move (x := x29) (by kernel_rfl) (by kernel_rfl) ?_
    refine ls_d (d := some 37) (by kernel_rfl) (by kernel_rfl) HA_1 (d_call (by kernel_rfl) (by kernel_rfl) H) (fun x37 h_2 w_2 H HA_2 => ?_)
    refine ls_d (d := some 16) (by kernel_rfl) (by kernel_rfl) HA_2 (d_alloc Tryd.zeroValue38 H) (fun x16 h_3 w_3 H HA_3 => ?_)
    refine ls_d (d := none) (by kernel_rfl) (by kernel_rfl) HA_3 (d_stn Tryd.sizeOf38 (by kernel_rfl) (by kernel_rfl) H) (fun _ h_4 w_4 H HA_4 => ?_)
    refine ls_nil ?_
    refine then_normal ?_
    refine fr_eq (b := ⟨([x0, x1, x2, x3, x4, x5, undef, undef, undef, undef, undef, undef, (.bool false), x22, x26, x29, x16, undef, undef, x0, x20, x21, x22, x1, x24, x25, x26, x22, x26, x29, x29, x31, x29, x2, x3, x35, x29, x37, undef, undef, undef, undef, undef, undef, undef, undef, undef, undef, undef, undef] ++ [undef, undef, undef, undef, undef, undef, undef, undef, undef, undef, undef, undef, undef, undef, undef, undef, undef, undef, undef, undef, undef, undef, undef, undef, undef, undef, undef, undef, undef, undef, undef, undef, undef, undef, undef, undef, undef, undef, undef, undef, undef, undef, undef, undef, undef, undef, undef, undef, undef, undef] ++ [undef, undef, undef, undef, undef, undef, undef, undef, undef, undef, undef, undef, undef, undef, undef, undef, undef, undef, undef, undef, undef, undef, undef, undef, undef, undef, undef, undef, undef, undef, undef, undef, undef, undef, undef, undef, undef]).toArray, []⟩) (by kernel_rfl) ?_
    refine wp_seq ?_
    refine wp_seq ?_
    refine lwp_list ?_
    refine ls_y (d := some 38) (by kernel_rfl) (by kernel_rfl) HA_4 (y_ldn Tryd.isAgg38 Tryd.sizeOf38 (by kernel_rfl) H) (fun x38 H => ?_)
    refine ls_move (x := x2) (by kernel_rfl) (by kernel_rfl) ?_
    refine ls_move (x := x22) (by kernel_rfl) (by kernel_rfl) ?_
    refine ls_p (d := some 41) (by kernel_rfl) (by kernel_rfl) (p_sub (by kernel_rfl) (by kernel_rfl) H) (fun x41 H => ?_)
    refine ls_p (d := some 42) (by kernel_rfl) (by kernel_rfl) (p_min (by kernel_rfl) (by kernel_rfl) H) (fun x42 H => ?_)
    refine ls_p (d := some 43) (by kernel_rfl) (by kernel_rfl) (p_max (by kernel_rfl) (by kernel_rfl) H) (fun x43 H => ?_)
    refine ls_fr (b := ⟨([x0, x1, x2, x3, x4, x5, undef, undef, undef, undef, undef, undef, (.bool false), x22, x26, x29, x16, undef, undef, x0, x20, x21, x22, x1, x24, x25, x26, x22, x26, x29, x29, x31, x29, x2, x3, x35, x29, x37, x38, x2, x22, x41, x42, x43, undef, undef, undef, undef, undef, undef] ++ [undef, undef, undef, undef, undef, undef, undef, undef, undef, undef, undef, undef, undef, undef, undef, undef, undef, undef, undef, undef, undef, undef, undef, undef, undef, undef, undef, undef, undef, undef, undef, undef, undef, undef, undef, undef, undef, undef, undef, undef, undef, undef, undef, undef, undef, undef, undef, undef, undef, undef] ++ [undef, undef, undef, undef, undef, undef, undef, undef, undef, undef, undef, undef, undef, undef, undef, undef, undef, undef, undef, undef, undef, undef, undef, undef, undef, undef, undef, undef, undef, undef, undef, undef, undef, undef, undef, undef, undef]).toArray, []⟩) (by kernel_rfl) ?_
    refine ls_move (x := x3) (by kernel_rfl) (by kernel_rfl) ?_
    refine ls_move (x := x26) (by kernel_rfl) (by kernel_rfl) ?_
    refine ls_p (d := some 46) (by kernel_rfl) (by kernel_rfl) (p_sub (by kernel_rfl) (by kernel_rfl) H) (fun x46 H => ?_)
    refine ls_p (d := some 47) (by kernel_rfl) (by kernel_rfl) (p_min (by kernel_rfl) (by kernel_rfl) H) (fun x47 H => ?_)
    refine ls_p (d := some 48) (by kernel_rfl) (by kernel_rfl) (p_max (by kernel_rfl) (by kernel_rfl) H) (fun x48 H => ?_)
    refine ls_p (d := some 49) (by kernel_rfl) (by kernel_rfl) (p_lit (pl := [(0, 1), (1, 1), (2, 1)]) Tryd.zeroValue38 Tryd.underlying38 ⟨(by kernel_rfl), Tryd.sizeOf3, (by kernel_rfl), Tryd.sizeOf3, (by kernel_rfl), Tryd.sizeOf4, trivial⟩ (by kernel_rfl) (by kernel_rfl) H) (fun x49 H => ?_)
    refine ls_fr (b := ⟨([x0, x1, x2, x3, x4, x5, undef, undef, undef, undef, undef, undef, (.bool false), x22, x26, x29, x16, undef, undef, x0, x20, x21, x22, x1, x24, x25, x26, x22, x26, x29, x29, x31, x29, x2, x3, x35, x29, x37, x38, x2, x22, x41, x42, x43, x3, x26, x46, x47, x48, x49] ++ [undef, undef, undef, undef, undef, undef, undef, undef, undef, undef, undef, undef, undef, undef, undef, undef, undef, undef, undef, undef, undef, undef, undef, undef, undef, undef, undef, undef, undef, undef, undef, undef, undef, undef, undef, undef, undef, undef, undef, undef, undef, undef, undef, undef, undef, undef, undef, undef, undef, undef] ++ [undef, undef, undef, undef, undef, undef, undef, undef, undef, undef, undef, undef, undef, undef, undef, undef, undef, undef, undef, undef, undef, undef, undef, undef, undef, undef, undef, undef, undef, undef, undef, undef, undef, undef, undef, undef, undef]).toArray, []⟩) (by kernel_rfl) ?_
    refine ls_p (d := some 50) (by kernel_rfl) (by kernel_rfl) (p_neqAgg (eqT_38) (by kernel_rfl) (by kernel_rfl) H) (fun x50 H => ?_)
    refine ls_nil ?_
    refine then_normal ?_
    refine fr_eq (b := ⟨([x0, x1, x2, x3, x4, x5, undef, undef, undef, undef, undef, undef, (.bool false), x22, x26, x29, x16, undef, undef, x0, x20, x21, x22, x1, x24, x25, x26, x22, x26, x29, x29, x31, x29, x2, x3, x35, x29, x37, x38, x2, x22, x41, x42, x43, x3, x26, x46, x47, x48, x49] ++ [x50, undef, undef, undef, undef, undef, undef, undef, undef, undef, undef, undef, undef, undef, undef, undef, undef, undef, undef, undef, undef, undef, undef, undef, undef, undef, undef, undef, undef, undef, undef, undef, undef, undef, undef, undef, undef, undef, undef, undef, undef, undef, undef, undef, undef, undef, undef, undef, undef, undef] ++ [undef, undef, undef, undef, undef, undef, undef, undef, undef, undef, undef, undef, undef, undef, undef, undef, undef, undef, undef, undef, undef, undef, undef, undef, undef, undef, undef, undef, undef, undef, undef, undef, undef, undef, undef, undef, undef]).toArray, []⟩) (by kernel_rfl) ?_
    refine wp_if rfl H (fun H => ?_) (fun H => ?_)
    · refine wp_seq ?_
      refine lwp_list ?_
      refine ls_assign (x := (.bool false)) (by kernel_rfl) (by kernel_rfl) ?_
      refine ls_nil ?_
      refine then_normal ?_
      refine fr_eq (b := ⟨([x0, x1, x2, x3, x4, x5, undef, undef, undef, undef, undef, undef, (.bool false), x22, x26, x29, x16, undef, undef, x0, x20, x21, x22, x1, x24, x25, x26, x22, x26, x29, x29, x31, x29, x2, x3, x35, x29, x37, x38, x2, x22, x41, x42, x43, x3, x26, x46, x47, x48, x49] ++ [x50, undef, undef, undef, undef, undef, undef, undef, undef, undef, undef, undef, undef, undef, undef, undef, undef, undef, undef, undef, undef, undef, undef, undef, undef, undef, undef, undef, undef, undef, undef, undef, undef, undef, undef, undef, undef, undef, undef, undef, undef, undef, undef, undef, undef, undef, undef, undef, undef, undef] ++ [undef, undef, undef, undef, undef, undef, undef, undef, undef, undef, undef, undef, undef, undef, undef, undef, undef, undef, undef, undef, undef, undef, undef, undef, undef, undef, undef, undef, undef, undef, undef, undef, undef, undef, undef, undef, undef]).toArray, []⟩) (by kernel_rfl) ?_
      refine wp_ret ?_
      refine then_ret ?_
      exact end1 (Tryd.results4) (by kernel_rfl) (by kernel_rfl) HA_4 H _ (.inr rfl)
    · refine wp_skip ?_
      refine then_normal ?_
      refine fr_eq (b := ⟨([x0, x1, x2, x3, x4, x5, undef, undef, undef, undef, undef, undef, (.bool false), x22, x26, x29, x16, undef, undef, x0, x20, x21, x22, x1, x24, x25, x26, x22, x26, x29, x29, x31, x29, x2, x3, x35, x29, x37, x38, x2, x22, x41, x42, x43, x3, x26, x46, x47, x48, x49] ++ [x50, undef, undef, undef, undef, undef, undef, undef, undef, undef, undef, undef, undef, undef, undef, undef, undef, undef, undef, undef, undef, undef, undef, undef, undef, undef, undef, undef, undef, undef, undef, undef, undef, undef, undef, undef, undef, undef, undef, undef, undef, undef, undef, undef, undef, undef, undef, undef, undef, undef] ++ [undef, undef, undef, undef, undef, undef, undef, undef, undef, undef, undef, undef, undef, undef, undef, undef, undef, undef, undef, undef, undef, undef, undef, undef, undef, undef, undef, undef, undef, undef, undef, undef, undef, undef, undef, undef, undef]).toArray, []⟩) (by kernel_rfl) ?_
      refine wp_seq ?_
      refine lwp_list ?_
      refine ls_move (x := x29) (by kernel_rfl) (by kernel_rfl) ?_
      refine ls_move (x := x4) (by kernel_rfl) (by kernel_rfl) ?_
      refine ls_move (x := x5) (by kernel_rfl) (by kernel_rfl) ?_
      refine ls_d (d := some 54) (by kernel_rfl) (by kernel_rfl) HA_4 (d_call (by kernel_rfl) (by kernel_rfl) H) (fun x54 h_5 w_5 H HA_5 => ?_)
      refine ls_nil ?_
      refine then_normal ?_
      refine fr_eq (b := ⟨([x0, x1, x2, x3, x4, x5, undef, undef, undef, undef, undef, undef, (.bool false), x22, x26, x29, x16, undef, undef, x0, x20, x21, x22, x1, x24, x25, x26, x22, x26, x29, x29, x31, x29, x2, x3, x35, x29, x37, x38, x2, x22, x41, x42, x43, x3, x26, x46, x47, x48, x49] ++ [x50, x29, x4, x5, x54, undef, undef, undef, undef, undef, undef, undef, undef, undef, undef, undef, undef, undef, undef, undef, undef, undef, undef, undef, undef, undef, undef, undef, undef, undef, undef, undef, undef, undef, undef, undef, undef, undef, undef, undef, undef, undef, undef, undef, undef, undef, undef, undef, undef, undef] ++ [undef, undef, undef, undef, undef, undef, undef, undef, undef, undef, undef, undef, undef, undef, undef, undef, undef, undef, undef, undef, undef, undef, undef, undef, undef, undef, undef, undef, undef, undef, undef, undef, undef, undef, undef, undef, undef]).toArray, []⟩) (by kernel_rfl) ?_
      refine wp_seq ?_
      refine lwp_list ?_
      refine ls_move (x := x29) (by kernel_rfl) (by kernel_rfl) ?_
      refine ls_d (d := some 56) (by kernel_rfl) (by kernel_rfl) HA_5 (d_call (by kernel_rfl) (by kernel_rfl) H) (fun x56 h_6 w_6 H HA_6 => ?_)
      refine ls_d (d := some 17) (by kernel_rfl) (by kernel_rfl) HA_6 (d_alloc Tryd.zeroValue38 H) (fun x17 h_7 w_7 H HA_7 => ?_)
      refine ls_d (d := none) (by kernel_rfl) (by kernel_rfl) HA_7 (d_stn Tryd.sizeOf38 (by kernel_rfl) (by kernel_rfl) H) (fun _ h_8 w_8 H HA_8 => ?_)
      refine ls_nil ?_
      refine then_normal ?_
      refine fr_eq (b := ⟨([x0, x1, x2, x3, x4, x5, undef, undef, undef, undef, undef, undef, (.bool false), x22, x26, x29, x16, x17, undef, x0, x20, x21, x22, x1, x24, x25, x26, x22, x26, x29, x29, x31, x29, x2, x3, x35, x29, x37, x38, x2, x22, x41, x42, x43, x3, x26, x46, x47, x48, x49] ++ [x50, x29, x4, x5, x54, x29, x56, undef, undef, undef, undef, undef, undef, undef, undef, undef, undef, undef, undef, undef, undef, undef, undef, undef, undef, undef, undef, undef, undef, undef, undef, undef, undef, undef, undef, undef, undef, undef, undef, undef, undef, undef, undef, undef, undef, undef, undef, undef, undef, undef] ++ [undef, undef, undef, undef, undef, undef, undef, undef, undef, undef, undef, undef, undef, undef, undef, undef, undef, undef, undef, undef, undef, undef, undef, undef, undef, undef, undef, undef, undef, undef, undef, undef, undef, undef, undef, undef, undef]).toArray, []⟩) (by kernel_rfl) ?_
      refine wp_seq ?_
      refine lwp_list ?_
      refine ls_move (x := x4) (by kernel_rfl) (by kernel_rfl) ?_
      refine ls_p (d := some 58) (by kernel_rfl) (by kernel_rfl) (p_off Tryd.underlying38 rfl (fun w => ⟨_, Tryd.sizeOf3 w⟩) rfl (by kernel_rfl) H) (fun x58 H => ?_)
      refine ls_y (d := some 59) (by kernel_rfl) (by kernel_rfl) HA_8 (y_ld Tryd.isAgg3 (by kernel_rfl) H) (fun x59 H => ?_)
      refine ls_p (d := some 60) (by kernel_rfl) (by kernel_rfl) (p_neg (by kernel_rfl) H) (fun x60 H => ?_)
      refine ls_p (d := some 61) (by kernel_rfl) (by kernel_rfl) (p_sGe (by kernel_rfl) (by kernel_rfl) H) (fun x61 H => ?_)
      refine ls_move (x := x61) (by kernel_rfl) (by kernel_rfl) ?_
      refine ls_fr (b := ⟨([x0, x1, x2, x3, x4, x5, undef, undef, undef, undef, undef, undef, (.bool false), x22, x26, x29, x16, x17, undef, x0, x20, x21, x22, x1, x24, x25, x26, x22, x26, x29, x29, x31, x29, x2, x3, x35, x29, x37, x38, x2, x22, x41, x42, x43, x3, x26, x46, x47, x48, x49] ++ [x50, x29, x4, x5, x54, x29, x56, x4, x58, x59, x60, x61, x61, undef, undef, undef, undef, undef, undef, undef, undef, undef, undef, undef, undef, undef, undef, undef, undef, undef, undef, undef, undef, undef, undef, undef, undef, undef, undef, undef, undef, undef, undef, undef, undef, undef, undef, undef, undef, undef] ++ [undef, undef, undef, undef, undef, undef, undef, undef, undef, undef, undef, undef, undef, undef, undef, undef, undef, undef, undef, undef, undef, undef, undef, undef, undef, undef, undef, undef, undef, undef, undef, undef, undef, undef, undef, undef, undef]).toArray, []⟩) (by kernel_rfl) ?_
      refine ls_and [(), (), (), (), (), (), (), ()] (fun K a w => ∃ (D : Nat → Value) (x70 : Value), a = ⟨([x0, x1, x2, x3, x4, x5, undef, undef, undef, undef, undef, undef, (.bool false), x22, x26, x29, x16, x17, undef, x0, x20, x21, x22, x1, x24, x25, x26, x22, x26, x29, x29, x31, x29, x2, x3, x35, x29, x37, x38, x2, x22, x41, x42, x43, x3, x26, x46, x47, x48, x49] ++ [x50, x29, x4, x5, x54, x29, x56, x4, x58, x59, x60, x61, x61, (D 0), (D 1), (D 2), (D 3), (D 4), (D 5), (D 6), x70, undef, undef, undef, undef, undef, undef, undef, undef, undef, undef, undef, undef, undef, undef, undef, undef, undef, undef, undef, undef, undef, undef, undef, undef, undef, undef, undef, undef, undef] ++ [undef, undef, undef, undef, undef, undef, undef, undef, undef, undef, undef, undef, undef, undef, undef, undef, undef, undef, undef, undef, undef, undef, undef, undef, undef, undef, undef, undef, undef, undef, undef, undef, undef, undef, undef, undef, undef]).toArray, []⟩ ∧ At w0 w h_8 ∧ K x70) H (fun hb_9 H => ?_) (fun hb_9 H => ?_) ?_
      · refine ls_move (x := x4) (by rw [hb_9]; kernel_rfl) (by kernel_rfl) ?_
        refine ls_move (x := x22) (by rw [hb_9]; kernel_rfl) (by kernel_rfl) ?_
        refine ls_p (d := some 65) (by kernel_rfl) (by rw [hb_9]; kernel_rfl) (p_sub (by kernel_rfl) (by kernel_rfl) H) (fun x65 H => ?_)
        refine ls_p (d := some 66) (by kernel_rfl) (by rw [hb_9]; kernel_rfl) (p_off Tryd.underlying38 rfl (fun w => ⟨_, Tryd.sizeOf3 w⟩) rfl (by kernel_rfl) H) (fun x66 H => ?_)
        refine ls_y (d := some 67) (by kernel_rfl) (by rw [hb_9]; kernel_rfl) HA_8 (y_ld Tryd.isAgg3 (by kernel_rfl) H) (fun x67 H => ?_)
        refine ls_p (d := some 68) (by kernel_rfl) (by rw [hb_9]; kernel_rfl) (p_sub (by kernel_rfl) (by kernel_rfl) H) (fun x68 H => ?_)
        refine ls_fr (b := ⟨([x0, x1, x2, x3, x4, x5, undef, undef, undef, undef, undef, undef, (.bool false), x22, x26, x29, x16, x17, undef, x0, x20, x21, x22, x1, x24, x25, x26, x22, x26, x29, x29, x31, x29, x2, x3, x35, x29, x37, x38, x2, x22, x41, x42, x43, x3, x26, x46, x47, x48, x49] ++ [x50, x29, x4, x5, x54, x29, x56, x4, x58, x59, x60, x61, x61, x4, x22, x65, x66, x67, x68, undef, undef, undef, undef, undef, undef, undef, undef, undef, undef, undef, undef, undef, undef, undef, undef, undef, undef, undef, undef, undef, undef, undef, undef, undef, undef, undef, undef, undef, undef, undef] ++ [undef, undef, undef, undef, undef, undef, undef, undef, undef, undef, undef, undef, undef, undef, undef, undef, undef, undef, undef, undef, undef, undef, undef, undef, undef, undef, undef, undef, undef, undef, undef, undef, undef, undef, undef, undef, undef]).toArray, []⟩) (by kernel_rfl) ?_
        refine ls_p (d := some 69) (by kernel_rfl) (by rw [hb_9]; kernel_rfl) (p_sLe (by kernel_rfl) (by kernel_rfl) H) (fun x69 H => ?_)
        refine ls_pick_t (x := x69) (by kernel_rfl) (by rw [hb_9]; kernel_rfl) (by kernel_rfl) ?_
        refine ls_nil ?_
        refine then_normal ?_
        exact ⟨(fun i => ([x4, x22, x65, x66, x67, x68, x69]).getD i undef), x69, by kernel_rfl, HA_8, H⟩
      · refine ls_skip (d := some 63) (by kernel_rfl) (by rw [hb_9]; kernel_rfl) ?_
        refine ls_skip (d := some 64) (by kernel_rfl) (by rw [hb_9]; kernel_rfl) ?_
        refine ls_skip (d := some 65) (by kernel_rfl) (by rw [hb_9]; kernel_rfl) ?_
        refine ls_skip (d := some 66) (by kernel_rfl) (by rw [hb_9]; kernel_rfl) ?_
        refine ls_skip (d := some 67) (by kernel_rfl) (by rw [hb_9]; kernel_rfl) ?_
        refine ls_skip (d := some 68) (by kernel_rfl) (by rw [hb_9]; kernel_rfl) ?_
        refine ls_fr (b := ⟨([x0, x1, x2, x3, x4, x5, undef, undef, undef, undef, undef, undef, (.bool false), x22, x26, x29, x16, x17, undef, x0, x20, x21, x22, x1, x24, x25, x26, x22, x26, x29, x29, x31, x29, x2, x3, x35, x29, x37, x38, x2, x22, x41, x42, x43, x3, x26, x46, x47, x48, x49] ++ [x50, x29, x4, x5, x54, x29, x56, x4, x58, x59, x60, x61, x61, undef, undef, undef, undef, undef, undef, undef, undef, undef, undef, undef, undef, undef, undef, undef, undef, undef, undef, undef, undef, undef, undef, undef, undef, undef, undef, undef, undef, undef, undef, undef, undef, undef, undef, undef, undef, undef] ++ [undef, undef, undef, undef, undef, undef, undef, undef, undef, undef, undef, undef, undef, undef, undef, undef, undef, undef, undef, undef, undef, undef, undef, undef, undef, undef, undef, undef, undef, undef, undef, undef, undef, undef, undef, undef, undef]).toArray, []⟩) (by kernel_rfl) ?_
        refine ls_skip (d := some 69) (by kernel_rfl) (by rw [hb_9]; kernel_rfl) ?_
        refine ls_pick_f (y := (.bool false)) (by kernel_rfl) (by rw [hb_9]; kernel_rfl) (by kernel_rfl) ?_
        refine ls_nil ?_
        refine then_normal ?_
        exact ⟨(fun i => ([undef, undef, undef, undef, undef, undef, undef]).getD i undef), (.bool false), by kernel_rfl, HA_8, H⟩
      · rintro _ w_9 ⟨D, x70, rfl, HA_9, H⟩
        refine ls_move (x := x70) (by kernel_rfl) (by kernel_rfl) ?_
        refine ls_and [(), (), (), (), (), ()] (fun K a w => ∃ (D_1 : Nat → Value) (x77 : Value), a = ⟨([x0, x1, x2, x3, x4, x5, undef, undef, undef, undef, undef, undef, (.bool false), x22, x26, x29, x16, x17, undef, x0, x20, x21, x22, x1, x24, x25, x26, x22, x26, x29, x29, x31, x29, x2, x3, x35, x29, x37, x38, x2, x22, x41, x42, x43, x3, x26, x46, x47, x48, x49] ++ [x50, x29, x4, x5, x54, x29, x56, x4, x58, x59, x60, x61, x61, (D 0), (D 1), (D 2), (D 3), (D 4), (D 5), (D 6), x70, x70, (D_1 0), (D_1 1), (D_1 2), (D_1 3), (D_1 4), x77, undef, undef, undef, undef, undef, undef, undef, undef, undef, undef, undef, undef, undef, undef, undef, undef, undef, undef, undef, undef, undef, undef] ++ [undef, undef, undef, undef, undef, undef, undef, undef, undef, undef, undef, undef, undef, undef, undef, undef, undef, undef, undef, undef, undef, undef, undef, undef, undef, undef, undef, undef, undef, undef, undef, undef, undef, undef, undef, undef, undef]).toArray, []⟩ ∧ At w0 w h_8 ∧ K x77) H (fun hb_8 H => ?_) (fun hb_8 H => ?_) ?_
        · refine ls_move (x := x5) (by rw [hb_8]; kernel_rfl) (by kernel_rfl) ?_
          refine ls_p (d := some 73) (by kernel_rfl) (by rw [hb_8]; kernel_rfl) (p_off Tryd.underlying38 rfl (fun w => ⟨_, Tryd.sizeOf3 w⟩) rfl (by kernel_rfl) H) (fun x73 H => ?_)
          refine ls_y (d := some 74) (by kernel_rfl) (by rw [hb_8]; kernel_rfl) HA_9 (y_ld Tryd.isAgg3 (by kernel_rfl) H) (fun x74 H => ?_)
          refine ls_p (d := some 75) (by kernel_rfl) (by rw [hb_8]; kernel_rfl) (p_neg (by kernel_rfl) H) (fun x75 H => ?_)
          refine ls_p (d := some 76) (by kernel_rfl) (by rw [hb_8]; kernel_rfl) (p_sGe (by kernel_rfl) (by kernel_rfl) H) (fun x76 H => ?_)
          refine ls_fr (b := ⟨([x0, x1, x2, x3, x4, x5, undef, undef, undef, undef, undef, undef, (.bool false), x22, x26, x29, x16, x17, undef, x0, x20, x21, x22, x1, x24, x25, x26, x22, x26, x29, x29, x31, x29, x2, x3, x35, x29, x37, x38, x2, x22, x41, x42, x43, x3, x26, x46, x47, x48, x49] ++ [x50, x29, x4, x5, x54, x29, x56, x4, x58, x59, x60, x61, x61, (D 0), (D 1), (D 2), (D 3), (D 4), (D 5), (D 6), x70, x70, x5, x73, x74, x75, x76, undef, undef, undef, undef, undef, undef, undef, undef, undef, undef, undef, undef, undef, undef, undef, undef, undef, undef, undef, undef, undef, undef, undef] ++ [undef, undef, undef, undef, undef, undef, undef, undef, undef, undef, undef, undef, undef, undef, undef, undef, undef, undef, undef, undef, undef, undef, undef, undef, undef, undef, undef, undef, undef, undef, undef, undef, undef, undef, undef, undef, undef]).toArray, []⟩) (by kernel_rfl) ?_
          refine ls_pick_t (x := x76) (by kernel_rfl) (by rw [hb_8]; kernel_rfl) (by kernel_rfl) ?_
          refine ls_nil ?_
          refine then_normal ?_
          exact ⟨(fun i => ([x5, x73, x74, x75, x76]).getD i undef), x76, by kernel_rfl, HA_9, H⟩
        · refine ls_skip (d := some 72) (by kernel_rfl) (by rw [hb_8]; kernel_rfl) ?_
          refine ls_skip (d := some 73) (by kernel_rfl) (by rw [hb_8]; kernel_rfl) ?_
          refine ls_skip (d := some 74) (by kernel_rfl) (by rw [hb_8]; kernel_rfl) ?_
          refine ls_skip (d := some 75) (by kernel_rfl) (by rw [hb_8]; kernel_rfl) ?_
          refine ls_skip (d := some 76) (by kernel_rfl) (by rw [hb_8]; kernel_rfl) ?_
          refine ls_fr (b := ⟨([x0, x1, x2, x3, x4, x5, undef, undef, undef, undef, undef, undef, (.bool false), x22, x26, x29, x16, x17, undef, x0, x20, x21, x22, x1, x24, x25, x26, x22, x26, x29, x29, x31, x29, x2, x3, x35, x29, x37, x38, x2, x22, x41, x42, x43, x3, x26, x46, x47, x48, x49] ++ [x50, x29, x4, x5, x54, x29, x56, x4, x58, x59, x60, x61, x61, (D 0), (D 1), (D 2), (D 3), (D 4), (D 5), (D 6), x70, x70, undef, undef, undef, undef, undef, undef, undef, undef, undef, undef, undef, undef, undef, undef, undef, undef, undef, undef, undef, undef, undef, undef, undef, undef, undef, undef, undef, undef] ++ [undef, undef, undef, undef, undef, undef, undef, undef, undef, undef, undef, undef, undef, undef, undef, undef, undef, undef, undef, undef, undef, undef, undef, undef, undef, undef, undef, undef, undef, undef, undef, undef, undef, undef, undef, undef, undef]).toArray, []⟩) (by kernel_rfl) ?_
          refine ls_pick_f (y := (.bool false)) (by kernel_rfl) (by rw [hb_8]; kernel_rfl) (by kernel_rfl) ?_
          refine ls_nil ?_
          refine then_normal ?_
          exact ⟨(fun i => ([undef, undef, undef, undef, undef]).getD i undef), (.bool false), by kernel_rfl, HA_9, H⟩
        · rintro _ w_10 ⟨D_1, x77, rfl, HA_10, H⟩
          refine ls_move (x := x77) (by kernel_rfl) (by kernel_rfl) ?_
          refine ls_and [(), (), (), (), (), (), (), ()] (fun K a w => ∃ (D_2 : Nat → Value) (x86 : Value), a = ⟨([x0, x1, x2, x3, x4, x5, undef, undef, undef, undef, undef, undef, (.bool false), x22, x26, x29, x16, x17, undef, x0, x20, x21, x22, x1, x24, x25, x26, x22, x26, x29, x29, x31, x29, x2, x3, x35, x29, x37, x38, x2, x22, x41, x42, x43, x3, x26, x46, x47, x48, x49] ++ [x50, x29, x4, x5, x54, x29, x56, x4, x58, x59, x60, x61, x61, (D 0), (D 1), (D 2), (D 3), (D 4), (D 5), (D 6), x70, x70, (D_1 0), (D_1 1), (D_1 2), (D_1 3), (D_1 4), x77, x77, (D_2 0), (D_2 1), (D_2 2), (D_2 3), (D_2 4), (D_2 5), (D_2 6), x86, undef, undef, undef, undef, undef, undef, undef, undef, undef, undef, undef, undef, undef] ++ [undef, undef, undef, undef, undef, undef, undef, undef, undef, undef, undef, undef, undef, undef, undef, undef, undef, undef, undef, undef, undef, undef, undef, undef, undef, undef, undef, undef, undef, undef, undef, undef, undef, undef, undef, undef, undef]).toArray, []⟩ ∧ At w0 w h_8 ∧ K x86) H (fun hb_7 H => ?_) (fun hb_7 H => ?_) ?_
          · refine ls_move (x := x5) (by rw [hb_7]; kernel_rfl) (by kernel_rfl) ?_
            refine ls_move (x := x26) (by rw [hb_7]; kernel_rfl) (by kernel_rfl) ?_
            refine ls_p (d := some 81) (by kernel_rfl) (by rw [hb_7]; kernel_rfl) (p_sub (by kernel_rfl) (by kernel_rfl) H) (fun x81 H => ?_)
            refine ls_p (d := some 82) (by kernel_rfl) (by rw [hb_7]; kernel_rfl) (p_off Tryd.underlying38 rfl (fun w => ⟨_, Tryd.sizeOf3 w⟩) rfl (by kernel_rfl) H) (fun x82 H => ?_)
            refine ls_y (d := some 83) (by kernel_rfl) (by rw [hb_7]; kernel_rfl) HA_10 (y_ld Tryd.isAgg3 (by kernel_rfl) H) (fun x83 H => ?_)
            refine ls_fr (b := ⟨([x0, x1, x2, x3, x4, x5, undef, undef, undef, undef, undef, undef, (.bool false), x22, x26, x29, x16, x17, undef, x0, x20, x21, x22, x1, x24, x25, x26, x22, x26, x29, x29, x31, x29, x2, x3, x35, x29, x37, x38, x2, x22, x41, x42, x43, x3, x26, x46, x47, x48, x49] ++ [x50, x29, x4, x5, x54, x29, x56, x4, x58, x59, x60, x61, x61, (D 0), (D 1), (D 2), (D 3), (D 4), (D 5), (D 6), x70, x70, (D_1 0), (D_1 1), (D_1 2), (D_1 3), (D_1 4), x77, x77, x5, x26, x81, x82, x83, undef, undef, undef, undef, undef, undef, undef, undef, undef, undef, undef, undef, undef, undef, undef, undef] ++ [undef, undef, undef, undef, undef, undef, undef, undef, undef, undef, undef, undef, undef, undef, undef, undef, undef, undef, undef, undef, undef, undef, undef, undef, undef, undef, undef, undef, undef, undef, undef, undef, undef, undef, undef, undef, undef]).toArray, []⟩) (by kernel_rfl) ?_
            refine ls_p (d := some 84) (by kernel_rfl) (by rw [hb_7]; kernel_rfl) (p_sub (by kernel_rfl) (by kernel_rfl) H) (fun x84 H => ?_)
            refine ls_p (d := some 85) (by kernel_rfl) (by rw [hb_7]; kernel_rfl) (p_sLe (by kernel_rfl) (by kernel_rfl) H) (fun x85 H => ?_)
            refine ls_pick_t (x := x85) (by kernel_rfl) (by rw [hb_7]; kernel_rfl) (by kernel_rfl) ?_
            refine ls_nil ?_
            refine then_normal ?_
            exact ⟨(fun i => ([x5, x26, x81, x82, x83, x84, x85]).getD i undef), x85, by kernel_rfl, HA_10, H⟩
          · refine ls_skip (d := some 79) (by kernel_rfl) (by rw [hb_7]; kernel_rfl) ?_
            refine ls_skip (d := some 80) (by kernel_rfl) (by rw [hb_7]; kernel_rfl) ?_
            refine ls_skip (d := some 81) (by kernel_rfl) (by rw [hb_7]; kernel_rfl) ?_
            refine ls_skip (d := some 82) (by kernel_rfl) (by rw [hb_7]; kernel_rfl) ?_
            refine ls_skip (d := some 83) (by kernel_rfl) (by rw [hb_7]; kernel_rfl) ?_
            refine ls_fr (b := ⟨([x0, x1, x2, x3, x4, x5, undef, undef, undef, undef, undef, undef, (.bool false), x22, x26, x29, x16, x17, undef, x0, x20, x21, x22, x1, x24, x25, x26, x22, x26, x29, x29, x31, x29, x2, x3, x35, x29, x37, x38, x2, x22, x41, x42, x43, x3, x26, x46, x47, x48, x49] ++ [x50, x29, x4, x5, x54, x29, x56, x4, x58, x59, x60, x61, x61, (D 0), (D 1), (D 2), (D 3), (D 4), (D 5), (D 6), x70, x70, (D_1 0), (D_1 1), (D_1 2), (D_1 3), (D_1 4), x77, x77, undef, undef, undef, undef, undef, undef, undef, undef, undef, undef, undef, undef, undef, undef, undef, undef, undef, undef, undef, undef, undef] ++ [undef, undef, undef, undef, undef, undef, undef, undef, undef, undef, undef, undef, undef, undef, undef, undef, undef, undef, undef, undef, undef, undef, undef, undef, undef, undef, undef, undef, undef, undef, undef, undef, undef, undef, undef, undef, undef]).toArray, []⟩) (by kernel_rfl) ?_
            refine ls_skip (d := some 84) (by kernel_rfl) (by rw [hb_7]; kernel_rfl) ?_
            refine ls_skip (d := some 85) (by kernel_rfl) (by rw [hb_7]; kernel_rfl) ?_
            refine ls_pick_f (y := (.bool false)) (by kernel_rfl) (by rw [hb_7]; kernel_rfl) (by kernel_rfl) ?_
            refine ls_nil ?_
            refine then_normal ?_
            exact ⟨(fun i => ([undef, undef, undef, undef, undef, undef, undef]).getD i undef), (.bool false), by kernel_rfl, HA_10, H⟩
          · rintro _ w_11 ⟨D_2, x86, rfl, HA_11, H⟩
            refine ls_assign (x := x86) (by kernel_rfl) (by kernel_rfl) ?_
            refine ls_nil ?_
            refine then_normal ?_
            refine fr_eq (b := ⟨([x0, x1, x2, x3, x4, x5, undef, undef, undef, undef, undef, undef, (.bool false), x22, x26, x29, x16, x17, x86, x0, x20, x21, x22, x1, x24, x25, x26, x22, x26, x29, x29, x31, x29, x2, x3, x35, x29, x37, x38, x2, x22, x41, x42, x43, x3, x26, x46, x47, x48, x49] ++ [x50, x29, x4, x5, x54, x29, x56, x4, x58, x59, x60, x61, x61, (D 0), (D 1), (D 2), (D 3), (D 4), (D 5), (D 6), x70, x70, (D_1 0), (D_1 1), (D_1 2), (D_1 3), (D_1 4), x77, x77, (D_2 0), (D_2 1), (D_2 2), (D_2 3), (D_2 4), (D_2 5), (D_2 6), x86, undef, undef, undef, undef, undef, undef, undef, undef, undef, undef, undef, undef, undef] ++ [undef, undef, undef, undef, undef, undef, undef, undef, undef, undef, undef, undef, undef, undef, undef, undef, undef, undef, undef, undef, undef, undef, undef, undef, undef, undef, undef, undef, undef, undef, undef, undef, undef, undef, undef, undef, undef]).toArray, []⟩) (by kernel_rfl) ?_
            refine wp_seq ?_
            refine wp_seq ?_
            refine lwp_list ?_
            refine ls_move (x := x86) (by kernel_rfl) (by kernel_rfl) ?_
            refine ls_move (x := x86) (by kernel_rfl) (by kernel_rfl) ?_
            refine ls_and [(), (), (), (), (), (), (), (), (), (), (), (), (), (), (), (), ()] (fun K a w => ∃ (D_3 : Nat → Value) (x105 : Value), a = ⟨([x0, x1, x2, x3, x4, x5, undef, undef, undef, undef, undef, undef, (.bool false), x22, x26, x29, x16, x17, x86, x0, x20, x21, x22, x1, x24, x25, x26, x22, x26, x29, x29, x31, x29, x2, x3, x35, x29, x37, x38, x2, x22, x41, x42, x43, x3, x26, x46, x47, x48, x49] ++ [x50, x29, x4, x5, x54, x29, x56, x4, x58, x59, x60, x61, x61, (D 0), (D 1), (D 2), (D 3), (D 4), (D 5), (D 6), x70, x70, (D_1 0), (D_1 1), (D_1 2), (D_1 3), (D_1 4), x77, x77, (D_2 0), (D_2 1), (D_2 2), (D_2 3), (D_2 4), (D_2 5), (D_2 6), x86, x86, x86, (D_3 0), (D_3 1), (D_3 2), (D_3 3), (D_3 4), (D_3 5), (D_3 6), (D_3 7), (D_3 8), (D_3 9), (D_3 10)] ++ [(D_3 11), (D_3 12), (D_3 13), (D_3 14), (D_3 15), x105, undef, undef, undef, undef, undef, undef, undef, undef, undef, undef, undef, undef, undef, undef, undef, undef, undef, undef, undef, undef, undef, undef, undef, undef, undef, undef, undef, undef, undef, undef, undef]).toArray, []⟩ ∧ At w0 w h_8 ∧ K x105) H (fun hb_5 H => ?_) (fun hb_5 H => ?_) ?_
            · refine ls_p (d := some 89) (by kernel_rfl) (by rw [hb_5]; kernel_rfl) (p_off Tryd.underlying38 rfl (fun w => ⟨_, Tryd.sizeOf3 w⟩) rfl (by kernel_rfl) H) (fun x89 H => ?_)
              refine ls_y (d := some 90) (by kernel_rfl) (by rw [hb_5]; kernel_rfl) HA_11 (y_ld Tryd.isAgg3 (by kernel_rfl) H) (fun x90 H => ?_)
              refine ls_p (d := some 91) (by kernel_rfl) (by rw [hb_5]; kernel_rfl) (p_off Tryd.underlying38 rfl (fun w => ⟨_, Tryd.sizeOf3 w⟩) rfl (by kernel_rfl) H) (fun x91 H => ?_)
              refine ls_y (d := some 92) (by kernel_rfl) (by rw [hb_5]; kernel_rfl) HA_11 (y_ld Tryd.isAgg3 (by kernel_rfl) H) (fun x92 H => ?_)
              refine ls_fr (b := ⟨([x0, x1, x2, x3, x4, x5, undef, undef, undef, undef, undef, undef, (.bool false), x22, x26, x29, x16, x17, x86, x0, x20, x21, x22, x1, x24, x25, x26, x22, x26, x29, x29, x31, x29, x2, x3, x35, x29, x37, x38, x2, x22, x41, x42, x43, x3, x26, x46, x47, x48, x49] ++ [x50, x29, x4, x5, x54, x29, x56, x4, x58, x59, x60, x61, x61, (D 0), (D 1), (D 2), (D 3), (D 4), (D 5), (D 6), x70, x70, (D_1 0), (D_1 1), (D_1 2), (D_1 3), (D_1 4), x77, x77, (D_2 0), (D_2 1), (D_2 2), (D_2 3), (D_2 4), (D_2 5), (D_2 6), x86, x86, x86, x89, x90, x91, x92, undef, undef, undef, undef, undef, undef, undef] ++ [undef, undef, undef, undef, undef, undef, undef, undef, undef, undef, undef, undef, undef, undef, undef, undef, undef, undef, undef, undef, undef, undef, undef, undef, undef, undef, undef, undef, undef, undef, undef, undef, undef, undef, undef, undef, undef]).toArray, []⟩) (by kernel_rfl) ?_
              refine ls_move (x := x4) (by rw [hb_5]; kernel_rfl) (by kernel_rfl) ?_
              refine ls_p (d := some 94) (by kernel_rfl) (by rw [hb_5]; kernel_rfl) (p_add (by kernel_rfl) (by kernel_rfl) H) (fun x94 H => ?_)
              refine ls_p (d := some 95) (by kernel_rfl) (by rw [hb_5]; kernel_rfl) (p_sNe (by kernel_rfl) (by kernel_rfl) H) (fun x95 H => ?_)
              refine ls_move (x := x95) (by rw [hb_5]; kernel_rfl) (by kernel_rfl) ?_
              refine ls_or [(), (), (), (), (), (), (), ()] (fun K a w => ∃ (D_9 : Nat → Value) (x104 : Value), a = ⟨([x0, x1, x2, x3, x4, x5, undef, undef, undef, undef, undef, undef, (.bool false), x22, x26, x29, x16, x17, x86, x0, x20, x21, x22, x1, x24, x25, x26, x22, x26, x29, x29, x31, x29, x2, x3, x35, x29, x37, x38, x2, x22, x41, x42, x43, x3, x26, x46, x47, x48, x49] ++ [x50, x29, x4, x5, x54, x29, x56, x4, x58, x59, x60, x61, x61, (D 0), (D 1), (D 2), (D 3), (D 4), (D 5), (D 6), x70, x70, (D_1 0), (D_1 1), (D_1 2), (D_1 3), (D_1 4), x77, x77, (D_2 0), (D_2 1), (D_2 2), (D_2 3), (D_2 4), (D_2 5), (D_2 6), x86, x86, x86, x89, x90, x91, x92, x4, x94, x95, x95, (D_9 0), (D_9 1), (D_9 2)] ++ [(D_9 3), (D_9 4), (D_9 5), (D_9 6), x104, undef, undef, undef, undef, undef, undef, undef, undef, undef, undef, undef, undef, undef, undef, undef, undef, undef, undef, undef, undef, undef, undef, undef, undef, undef, undef, undef, undef, undef, undef, undef, undef]).toArray, []⟩ ∧ At w0 w h_8 ∧ K x104) H (fun hb_6 H => ?_) (fun hb_6 H => ?_) ?_
              · refine ls_p (d := some 97) (by kernel_rfl) (by rw [hb_6]; kernel_rfl) (p_off Tryd.underlying38 rfl (fun w => ⟨_, Tryd.sizeOf3 w⟩) rfl (by kernel_rfl) H) (fun x97 H => ?_)
                refine ls_y (d := some 98) (by kernel_rfl) (by rw [hb_6]; kernel_rfl) HA_11 (y_ld Tryd.isAgg3 (by kernel_rfl) H) (fun x98 H => ?_)
                refine ls_fr (b := ⟨([x0, x1, x2, x3, x4, x5, undef, undef, undef, undef, undef, undef, (.bool false), x22, x26, x29, x16, x17, x86, x0, x20, x21, x22, x1, x24, x25, x26, x22, x26, x29, x29, x31, x29, x2, x3, x35, x29, x37, x38, x2, x22, x41, x42, x43, x3, x26, x46, x47, x48, x49] ++ [x50, x29, x4, x5, x54, x29, x56, x4, x58, x59, x60, x61, x61, (D 0), (D 1), (D 2), (D 3), (D 4), (D 5), (D 6), x70, x70, (D_1 0), (D_1 1), (D_1 2), (D_1 3), (D_1 4), x77, x77, (D_2 0), (D_2 1), (D_2 2), (D_2 3), (D_2 4), (D_2 5), (D_2 6), x86, x86, x86, x89, x90, x91, x92, x4, x94, x95, x95, x97, x98, undef] ++ [undef, undef, undef, undef, undef, undef, undef, undef, undef, undef, undef, undef, undef, undef, undef, undef, undef, undef, undef, undef, undef, undef, undef, undef, undef, undef, undef, undef, undef, undef, undef, undef, undef, undef, undef, undef, undef]).toArray, []⟩) (by kernel_rfl) ?_
                refine ls_p (d := some 99) (by kernel_rfl) (by rw [hb_6]; kernel_rfl) (p_off Tryd.underlying38 rfl (fun w => ⟨_, Tryd.sizeOf3 w⟩) rfl (by kernel_rfl) H) (fun x99 H => ?_)
                refine ls_y (d := some 100) (by kernel_rfl) (by rw [hb_6]; kernel_rfl) HA_11 (y_ld Tryd.isAgg3 (by kernel_rfl) H) (fun x100 H => ?_)
                refine ls_move (x := x5) (by rw [hb_6]; kernel_rfl) (by kernel_rfl) ?_
                refine ls_p (d := some 102) (by kernel_rfl) (by rw [hb_6]; kernel_rfl) (p_add (by kernel_rfl) (by kernel_rfl) H) (fun x102 H => ?_)
                refine ls_p (d := some 103) (by kernel_rfl) (by rw [hb_6]; kernel_rfl) (p_sNe (by kernel_rfl) (by kernel_rfl) H) (fun x103 H => ?_)
                refine ls_pick_f (y := x103) (by rw [hb_5]; kernel_rfl) (by rw [hb_6]; kernel_rfl) (by kernel_rfl) ?_
                refine ls_nil ?_
                refine then_normal ?_
                exact ⟨(fun i => ([x97, x98, x99, x100, x5, x102, x103]).getD i undef), x103, by kernel_rfl, HA_11, H⟩
              · refine ls_skip (d := some 97) (by kernel_rfl) (by rw [hb_6]; kernel_rfl) ?_
                refine ls_skip (d := some 98) (by kernel_rfl) (by rw [hb_6]; kernel_rfl) ?_
                refine ls_fr (b := ⟨([x0, x1, x2, x3, x4, x5, undef, undef, undef, undef, undef, undef, (.bool false), x22, x26, x29, x16, x17, x86, x0, x20, x21, x22, x1, x24, x25, x26, x22, x26, x29, x29, x31, x29, x2, x3, x35, x29, x37, x38, x2, x22, x41, x42, x43, x3, x26, x46, x47, x48, x49] ++ [x50, x29, x4, x5, x54, x29, x56, x4, x58, x59, x60, x61, x61, (D 0), (D 1), (D 2), (D 3), (D 4), (D 5), (D 6), x70, x70, (D_1 0), (D_1 1), (D_1 2), (D_1 3), (D_1 4), x77, x77, (D_2 0), (D_2 1), (D_2 2), (D_2 3), (D_2 4), (D_2 5), (D_2 6), x86, x86, x86, x89, x90, x91, x92, x4, x94, x95, x95, undef, undef, undef] ++ [undef, undef, undef, undef, undef, undef, undef, undef, undef, undef, undef, undef, undef, undef, undef, undef, undef, undef, undef, undef, undef, undef, undef, undef, undef, undef, undef, undef, undef, undef, undef, undef, undef, undef, undef, undef, undef]).toArray, []⟩) (by kernel_rfl) ?_
                refine ls_skip (d := some 99) (by kernel_rfl) (by rw [hb_6]; kernel_rfl) ?_
                refine ls_skip (d := some 100) (by kernel_rfl) (by rw [hb_6]; kernel_rfl) ?_
                refine ls_skip (d := some 101) (by kernel_rfl) (by rw [hb_6]; kernel_rfl) ?_
                refine ls_skip (d := some 102) (by kernel_rfl) (by rw [hb_6]; kernel_rfl) ?_
                refine ls_skip (d := some 103) (by kernel_rfl) (by rw [hb_6]; kernel_rfl) ?_
                refine ls_pick_t (x := (.bool true)) (by rw [hb_5]; kernel_rfl) (by rw [hb_6]; kernel_rfl) (by kernel_rfl) ?_
                refine ls_nil ?_
                refine then_normal ?_
                exact ⟨(fun i => ([undef, undef, undef, undef, undef, undef, undef]).getD i undef), (.bool true), by kernel_rfl, HA_11, H⟩
              · rintro _ w_21 ⟨D_9, x104, rfl, HA_21, H⟩
                refine ls_pick_t (x := x104) (by kernel_rfl) (by rw [hb_5]; kernel_rfl) (by kernel_rfl) ?_
                refine ls_nil ?_
                refine then_normal ?_
                exact ⟨(fun i => ([x89, x90, x91, x92, x4, x94, x95, x95, (D_9 0), (D_9 1), (D_9 2), (D_9 3), (D_9 4), (D_9 5), (D_9 6), x104]).getD i undef), x104, by kernel_rfl, HA_21, H⟩
            · refine ls_skip (d := some 89) (by kernel_rfl) (by rw [hb_5]; kernel_rfl) ?_
              refine ls_skip (d := some 90) (by kernel_rfl) (by rw [hb_5]; kernel_rfl) ?_
              refine ls_skip (d := some 91) (by kernel_rfl) (by rw [hb_5]; kernel_rfl) ?_
              refine ls_skip (d := some 92) (by kernel_rfl) (by rw [hb_5]; kernel_rfl) ?_
              refine ls_fr (b := ⟨([x0, x1, x2, x3, x4, x5, undef, undef, undef, undef, undef, undef, (.bool false), x22, x26, x29, x16, x17, x86, x0, x20, x21, x22, x1, x24, x25, x26, x22, x26, x29, x29, x31, x29, x2, x3, x35, x29, x37, x38, x2, x22, x41, x42, x43, x3, x26, x46, x47, x48, x49] ++ [x50, x29, x4, x5, x54, x29, x56, x4, x58, x59, x60, x61, x61, (D 0), (D 1), (D 2), (D 3), (D 4), (D 5), (D 6), x70, x70, (D_1 0), (D_1 1), (D_1 2), (D_1 3), (D_1 4), x77, x77, (D_2 0), (D_2 1), (D_2 2), (D_2 3), (D_2 4), (D_2 5), (D_2 6), x86, x86, x86, undef, undef, undef, undef, undef, undef, undef, undef, undef, undef, undef] ++ [undef, undef, undef, undef, undef, undef, undef, undef, undef, undef, undef, undef, undef, undef, undef, undef, undef, undef, undef, undef, undef, undef, undef, undef, undef, undef, undef, undef, undef, undef, undef, undef, undef, undef, undef, undef, undef]).toArray, []⟩) (by kernel_rfl) ?_
              refine ls_skip (d := some 93) (by kernel_rfl) (by rw [hb_5]; kernel_rfl) ?_
              refine ls_skip (d := some 94) (by kernel_rfl) (by rw [hb_5]; kernel_rfl) ?_
              refine ls_skip (d := some 95) (by kernel_rfl) (by rw [hb_5]; kernel_rfl) ?_
              refine ls_skip (d := some 96) (by kernel_rfl) (by rw [hb_5]; kernel_rfl) ?_
              refine ls_skip (d := some 97) (by kernel_rfl) (by kernel_rfl) ?_
              refine ls_skip (d := some 98) (by kernel_rfl) (by kernel_rfl) ?_
              refine ls_fr (b := ⟨([x0, x1, x2, x3, x4, x5, undef, undef, undef, undef, undef, undef, (.bool false), x22, x26, x29, x16, x17, x86, x0, x20, x21, x22, x1, x24, x25, x26, x22, x26, x29, x29, x31, x29, x2, x3, x35, x29, x37, x38, x2, x22, x41, x42, x43, x3, x26, x46, x47, x48, x49] ++ [x50, x29, x4, x5, x54, x29, x56, x4, x58, x59, x60, x61, x61, (D 0), (D 1), (D 2), (D 3), (D 4), (D 5), (D 6), x70, x70, (D_1 0), (D_1 1), (D_1 2), (D_1 3), (D_1 4), x77, x77, (D_2 0), (D_2 1), (D_2 2), (D_2 3), (D_2 4), (D_2 5), (D_2 6), x86, x86, x86, undef, undef, undef, undef, undef, undef, undef, undef, undef, undef, undef] ++ [undef, undef, undef, undef, undef, undef, undef, undef, undef, undef, undef, undef, undef, undef, undef, undef, undef, undef, undef, undef, undef, undef, undef, undef, undef, undef, undef, undef, undef, undef, undef, undef, undef, undef, undef, undef, undef]).toArray, []⟩) (by kernel_rfl) ?_
              refine ls_skip (d := some 99) (by kernel_rfl) (by kernel_rfl) ?_
              refine ls_skip (d := some 100) (by kernel_rfl) (by kernel_rfl) ?_
              refine ls_skip (d := some 101) (by kernel_rfl) (by kernel_rfl) ?_
              refine ls_skip (d := some 102) (by kernel_rfl) (by kernel_rfl) ?_
              refine ls_skip (d := some 103) (by kernel_rfl) (by kernel_rfl) ?_
              refine ls_skip (d := some 104) (by kernel_rfl) (by rw [hb_5]; kernel_rfl) ?_
              refine ls_fr (b := ⟨([x0, x1, x2, x3, x4, x5, undef, undef, undef, undef, undef, undef, (.bool false), x22, x26, x29, x16, x17, x86, x0, x20, x21, x22, x1, x24, x25, x26, x22, x26, x29, x29, x31, x29, x2, x3, x35, x29, x37, x38, x2, x22, x41, x42, x43, x3, x26, x46, x47, x48, x49] ++ [x50, x29, x4, x5, x54, x29, x56, x4, x58, x59, x60, x61, x61, (D 0), (D 1), (D 2), (D 3), (D 4), (D 5), (D 6), x70, x70, (D_1 0), (D_1 1), (D_1 2), (D_1 3), (D_1 4), x77, x77, (D_2 0), (D_2 1), (D_2 2), (D_2 3), (D_2 4), (D_2 5), (D_2 6), x86, x86, x86, undef, undef, undef, undef, undef, undef, undef, undef, undef, undef, undef] ++ [undef, undef, undef, undef, undef, undef, undef, undef, undef, undef, undef, undef, undef, undef, undef, undef, undef, undef, undef, undef, undef, undef, undef, undef, undef, undef, undef, undef, undef, undef, undef, undef, undef, undef, undef, undef, undef]).toArray, []⟩) (by kernel_rfl) ?_
              refine ls_pick_f (y := (.bool false)) (by kernel_rfl) (by rw [hb_5]; kernel_rfl) (by kernel_rfl) ?_
              refine ls_nil ?_
              refine then_normal ?_
              exact ⟨(fun i => ([undef, undef, undef, undef, undef, undef, undef, undef, undef, undef, undef, undef, undef, undef, undef, undef]).getD i undef), (.bool false), by kernel_rfl, HA_11, H⟩
            · rintro _ w_12 ⟨D_3, x105, rfl, HA_12, H⟩
              refine ls_nil ?_
              refine then_normal ?_
              refine fr_eq (b := ⟨([x0, x1, x2, x3, x4, x5, undef, undef, undef, undef, undef, undef, (.bool false), x22, x26, x29, x16, x17, x86, x0, x20, x21, x22, x1, x24, x25, x26, x22, x26, x29, x29, x31, x29, x2, x3, x35, x29, x37, x38, x2, x22, x41, x42, x43, x3, x26, x46, x47, x48, x49] ++ [x50, x29, x4, x5, x54, x29, x56, x4, x58, x59, x60, x61, x61, (D 0), (D 1), (D 2), (D 3), (D 4), (D 5), (D 6), x70, x70, (D_1 0), (D_1 1), (D_1 2), (D_1 3), (D_1 4), x77, x77, (D_2 0), (D_2 1), (D_2 2), (D_2 3), (D_2 4), (D_2 5), (D_2 6), x86, x86, x86, (D_3 0), (D_3 1), (D_3 2), (D_3 3), (D_3 4), (D_3 5), (D_3 6), (D_3 7), (D_3 8), (D_3 9), (D_3 10)] ++ [(D_3 11), (D_3 12), (D_3 13), (D_3 14), (D_3 15), x105, undef, undef, undef, undef, undef, undef, undef, undef, undef, undef, undef, undef, undef, undef, undef, undef, undef, undef, undef, undef, undef, undef, undef, undef, undef, undef, undef, undef, undef, undef, undef]).toArray, []⟩) (by kernel_rfl) ?_
              refine wp_if rfl H (fun H => ?_) (fun H => ?_)
              · refine wp_seq ?_
                refine lwp_list ?_
                refine ls_assign (x := (.bool false)) (by kernel_rfl) (by kernel_rfl) ?_
                refine ls_nil ?_
                refine then_normal ?_
                refine fr_eq (b := ⟨([x0, x1, x2, x3, x4, x5, undef, undef, undef, undef, undef, undef, (.bool false), x22, x26, x29, x16, x17, x86, x0, x20, x21, x22, x1, x24, x25, x26, x22, x26, x29, x29, x31, x29, x2, x3, x35, x29, x37, x38, x2, x22, x41, x42, x43, x3, x26, x46, x47, x48, x49] ++ [x50, x29, x4, x5, x54, x29, x56, x4, x58, x59, x60, x61, x61, (D 0), (D 1), (D 2), (D 3), (D 4), (D 5), (D 6), x70, x70, (D_1 0), (D_1 1), (D_1 2), (D_1 3), (D_1 4), x77, x77, (D_2 0), (D_2 1), (D_2 2), (D_2 3), (D_2 4), (D_2 5), (D_2 6), x86, x86, x86, (D_3 0), (D_3 1), (D_3 2), (D_3 3), (D_3 4), (D_3 5), (D_3 6), (D_3 7), (D_3 8), (D_3 9), (D_3 10)] ++ [(D_3 11), (D_3 12), (D_3 13), (D_3 14), (D_3 15), x105, undef, undef, undef, undef, undef, undef, undef, undef, undef, undef, undef, undef, undef, undef, undef, undef, undef, undef, undef, undef, undef, undef, undef, undef, undef, undef, undef, undef, undef, undef, undef]).toArray, []⟩) (by kernel_rfl) ?_
                refine wp_ret ?_
                refine then_ret ?_
                exact end1 (Tryd.results4) (by kernel_rfl) (by kernel_rfl) HA_12 H _ (.inr rfl)
              · refine wp_skip ?_
                refine then_normal ?_
                refine fr_eq (b := ⟨([x0, x1, x2, x3, x4, x5, undef, undef, undef, undef, undef, undef, (.bool false), x22, x26, x29, x16, x17, x86, x0, x20, x21, x22, x1, x24, x25, x26, x22, x26, x29, x29, x31, x29, x2, x3, x35, x29, x37, x38, x2, x22, x41, x42, x43, x3, x26, x46, x47, x48, x49] ++ [x50, x29, x4, x5, x54, x29, x56, x4, x58, x59, x60, x61, x61, (D 0), (D 1), (D 2), (D 3), (D 4), (D 5), (D 6), x70, x70, (D_1 0), (D_1 1), (D_1 2), (D_1 3), (D_1 4), x77, x77, (D_2 0), (D_2 1), (D_2 2), (D_2 3), (D_2 4), (D_2 5), (D_2 6), x86, x86, x86, (D_3 0), (D_3 1), (D_3 2), (D_3 3), (D_3 4), (D_3 5), (D_3 6), (D_3 7), (D_3 8), (D_3 9), (D_3 10)] ++ [(D_3 11), (D_3 12), (D_3 13), (D_3 14), (D_3 15), x105, undef, undef, undef, undef, undef, undef, undef, undef, undef, undef, undef, undef, undef, undef, undef, undef, undef, undef, undef, undef, undef, undef, undef, undef, undef, undef, undef, undef, undef, undef, undef]).toArray, []⟩) (by kernel_rfl) ?_
                refine wp_seq ?_
                refine lwp_list ?_
                refine ls_move (x := x29) (by kernel_rfl) (by kernel_rfl) ?_
                refine ls_d (d := some 107) (by kernel_rfl) (by kernel_rfl) HA_12 (d_call (by kernel_rfl) (by kernel_rfl) H) (fun x107 h_9 w_13 H HA_13 => ?_)
                refine ls_nil ?_
                refine then_normal ?_
                refine fr_eq (b := ⟨([x0, x1, x2, x3, x4, x5, undef, undef, undef, undef, undef, undef, (.bool false), x22, x26, x29, x16, x17, x86, x0, x20, x21, x22, x1, x24, x25, x26, x22, x26, x29, x29, x31, x29, x2, x3, x35, x29, x37, x38, x2, x22, x41, x42, x43, x3, x26, x46, x47, x48, x49] ++ [x50, x29, x4, x5, x54, x29, x56, x4, x58, x59, x60, x61, x61, (D 0), (D 1), (D 2), (D 3), (D 4), (D 5), (D 6), x70, x70, (D_1 0), (D_1 1), (D_1 2), (D_1 3), (D_1 4), x77, x77, (D_2 0), (D_2 1), (D_2 2), (D_2 3), (D_2 4), (D_2 5), (D_2 6), x86, x86, x86, (D_3 0), (D_3 1), (D_3 2), (D_3 3), (D_3 4), (D_3 5), (D_3 6), (D_3 7), (D_3 8), (D_3 9), (D_3 10)] ++ [(D_3 11), (D_3 12), (D_3 13), (D_3 14), (D_3 15), x105, x29, x107, undef, undef, undef, undef, undef, undef, undef, undef, undef, undef, undef, undef, undef, undef, undef, undef, undef, undef, undef, undef, undef, undef, undef, undef, undef, undef, undef, undef, undef]).toArray, []⟩) (by kernel_rfl) ?_
                refine wp_seq ?_
                refine lwp_list ?_
                refine ls_p (d := some 108) (by kernel_rfl) (by kernel_rfl) (p_off Tryd.underlying38 rfl (fun w => ⟨_, Tryd.sizeOf3 w⟩) rfl (by kernel_rfl) H) (fun x108 H => ?_)
                refine ls_y (d := some 109) (by kernel_rfl) (by kernel_rfl) HA_13 (y_ld Tryd.isAgg3 (by kernel_rfl) H) (fun x109 H => ?_)
                refine ls_p (d := some 110) (by kernel_rfl) (by kernel_rfl) (p_sGe (by kernel_rfl) (by kernel_rfl) H) (fun x110 H => ?_)
                refine ls_move (x := x110) (by kernel_rfl) (by kernel_rfl) ?_
                refine ls_and [(), (), (), (), ()] (fun K a w => ∃ (D_4 : Nat → Value) (x116 : Value), a = ⟨([x0, x1, x2, x3, x4, x5, undef, undef, undef, undef, undef, undef, (.bool false), x22, x26, x29, x16, x17, x86, x0, x20, x21, x22, x1, x24, x25, x26, x22, x26, x29, x29, x31, x29, x2, x3, x35, x29, x37, x38, x2, x22, x41, x42, x43, x3, x26, x46, x47, x48, x49] ++ [x50, x29, x4, x5, x54, x29, x56, x4, x58, x59, x60, x61, x61, (D 0), (D 1), (D 2), (D 3), (D 4), (D 5), (D 6), x70, x70, (D_1 0), (D_1 1), (D_1 2), (D_1 3), (D_1 4), x77, x77, (D_2 0), (D_2 1), (D_2 2), (D_2 3), (D_2 4), (D_2 5), (D_2 6), x86, x86, x86, (D_3 0), (D_3 1), (D_3 2), (D_3 3), (D_3 4), (D_3 5), (D_3 6), (D_3 7), (D_3 8), (D_3 9), (D_3 10)] ++ [(D_3 11), (D_3 12), (D_3 13), (D_3 14), (D_3 15), x105, x29, x107, x108, x109, x110, x110, (D_4 0), (D_4 1), (D_4 2), (D_4 3), x116, undef, undef, undef, undef, undef, undef, undef, undef, undef, undef, undef, undef, undef, undef, undef, undef, undef, undef, undef, undef]).toArray, []⟩ ∧ At w0 w h_9 ∧ K x116) H (fun hb_4 H => ?_) (fun hb_4 H => ?_) ?_
                · refine ls_p (d := some 112) (by kernel_rfl) (by rw [hb_4]; kernel_rfl) (p_off Tryd.underlying38 rfl (fun w => ⟨_, Tryd.sizeOf3 w⟩) rfl (by kernel_rfl) H) (fun x112 H => ?_)
                  refine ls_y (d := some 113) (by kernel_rfl) (by rw [hb_4]; kernel_rfl) HA_13 (y_ld Tryd.isAgg3 (by kernel_rfl) H) (fun x113 H => ?_)
                  refine ls_fr (b := ⟨([x0, x1, x2, x3, x4, x5, undef, undef, undef, undef, undef, undef, (.bool false), x22, x26, x29, x16, x17, x86, x0, x20, x21, x22, x1, x24, x25, x26, x22, x26, x29, x29, x31, x29, x2, x3, x35, x29, x37, x38, x2, x22, x41, x42, x43, x3, x26, x46, x47, x48, x49] ++ [x50, x29, x4, x5, x54, x29, x56, x4, x58, x59, x60, x61, x61, (D 0), (D 1), (D 2), (D 3), (D 4), (D 5), (D 6), x70, x70, (D_1 0), (D_1 1), (D_1 2), (D_1 3), (D_1 4), x77, x77, (D_2 0), (D_2 1), (D_2 2), (D_2 3), (D_2 4), (D_2 5), (D_2 6), x86, x86, x86, (D_3 0), (D_3 1), (D_3 2), (D_3 3), (D_3 4), (D_3 5), (D_3 6), (D_3 7), (D_3 8), (D_3 9), (D_3 10)] ++ [(D_3 11), (D_3 12), (D_3 13), (D_3 14), (D_3 15), x105, x29, x107, x108, x109, x110, x110, x112, x113, undef, undef, undef, undef, undef, undef, undef, undef, undef, undef, undef, undef, undef, undef, undef, undef, undef, undef, undef, undef, undef, undef, undef]).toArray, []⟩) (by kernel_rfl) ?_
                  refine ls_move (x := x22) (by rw [hb_4]; kernel_rfl) (by kernel_rfl) ?_
                  refine ls_p (d := some 115) (by kernel_rfl) (by rw [hb_4]; kernel_rfl) (p_sLt (by kernel_rfl) (by kernel_rfl) H) (fun x115 H => ?_)
                  refine ls_pick_t (x := x115) (by kernel_rfl) (by rw [hb_4]; kernel_rfl) (by kernel_rfl) ?_
                  refine ls_nil ?_
                  refine then_normal ?_
                  exact ⟨(fun i => ([x112, x113, x22, x115]).getD i undef), x115, by kernel_rfl, HA_13, H⟩
                · refine ls_skip (d := some 112) (by kernel_rfl) (by rw [hb_4]; kernel_rfl) ?_
                  refine ls_skip (d := some 113) (by kernel_rfl) (by rw [hb_4]; kernel_rfl) ?_
                  refine ls_fr (b := ⟨([x0, x1, x2, x3, x4, x5, undef, undef, undef, undef, undef, undef, (.bool false), x22, x26, x29, x16, x17, x86, x0, x20, x21, x22, x1, x24, x25, x26, x22, x26, x29, x29, x31, x29, x2, x3, x35, x29, x37, x38, x2, x22, x41, x42, x43, x3, x26, x46, x47, x48, x49] ++ [x50, x29, x4, x5, x54, x29, x56, x4, x58, x59, x60, x61, x61, (D 0), (D 1), (D 2), (D 3), (D 4), (D 5), (D 6), x70, x70, (D_1 0), (D_1 1), (D_1 2), (D_1 3), (D_1 4), x77, x77, (D_2 0), (D_2 1), (D_2 2), (D_2 3), (D_2 4), (D_2 5), (D_2 6), x86, x86, x86, (D_3 0), (D_3 1), (D_3 2), (D_3 3), (D_3 4), (D_3 5), (D_3 6), (D_3 7), (D_3 8), (D_3 9), (D_3 10)] ++ [(D_3 11), (D_3 12), (D_3 13), (D_3 14), (D_3 15), x105, x29, x107, x108, x109, x110, x110, undef, undef, undef, undef, undef, undef, undef, undef, undef, undef, undef, undef, undef, undef, undef, undef, undef, undef, undef, undef, undef, undef, undef, undef, undef]).toArray, []⟩) (by kernel_rfl) ?_
                  refine ls_skip (d := some 114) (by kernel_rfl) (by rw [hb_4]; kernel_rfl) ?_
                  refine ls_skip (d := some 115) (by kernel_rfl) (by rw [hb_4]; kernel_rfl) ?_
                  refine ls_pick_f (y := (.bool false)) (by kernel_rfl) (by rw [hb_4]; kernel_rfl) (by kernel_rfl) ?_
                  refine ls_nil ?_
                  refine then_normal ?_
                  exact ⟨(fun i => ([undef, undef, undef, undef]).getD i undef), (.bool false), by kernel_rfl, HA_13, H⟩
                · rintro _ w_14 ⟨D_4, x116, rfl, HA_14, H⟩
                  refine ls_move (x := x116) (by kernel_rfl) (by kernel_rfl) ?_
                  refine ls_and [(), (), (), ()] (fun K a w => ∃ (D_5 : Nat → Value) (x121 : Value), a = ⟨([x0, x1, x2, x3, x4, x5, undef, undef, undef, undef, undef, undef, (.bool false), x22, x26, x29, x16, x17, x86, x0, x20, x21, x22, x1, x24, x25, x26, x22, x26, x29, x29, x31, x29, x2, x3, x35, x29, x37, x38, x2, x22, x41, x42, x43, x3, x26, x46, x47, x48, x49] ++ [x50, x29, x4, x5, x54, x29, x56, x4, x58, x59, x60, x61, x61, (D 0), (D 1), (D 2), (D 3), (D 4), (D 5), (D 6), x70, x70, (D_1 0), (D_1 1), (D_1 2), (D_1 3), (D_1 4), x77, x77, (D_2 0), (D_2 1), (D_2 2), (D_2 3), (D_2 4), (D_2 5), (D_2 6), x86, x86, x86, (D_3 0), (D_3 1), (D_3 2), (D_3 3), (D_3 4), (D_3 5), (D_3 6), (D_3 7), (D_3 8), (D_3 9), (D_3 10)] ++ [(D_3 11), (D_3 12), (D_3 13), (D_3 14), (D_3 15), x105, x29, x107, x108, x109, x110, x110, (D_4 0), (D_4 1), (D_4 2), (D_4 3), x116, x116, (D_5 0), (D_5 1), (D_5 2), x121, undef, undef, undef, undef, undef, undef, undef, undef, undef, undef, undef, undef, undef, undef, undef]).toArray, []⟩ ∧ At w0 w h_9 ∧ K x121) H (fun hb_3 H => ?_) (fun hb_3 H => ?_) ?_
                  · refine ls_p (d := some 118) (by kernel_rfl) (by rw [hb_3]; kernel_rfl) (p_off Tryd.underlying38 rfl (fun w => ⟨_, Tryd.sizeOf3 w⟩) rfl (by kernel_rfl) H) (fun x118 H => ?_)
                    refine ls_y (d := some 119) (by kernel_rfl) (by rw [hb_3]; kernel_rfl) HA_14 (y_ld Tryd.isAgg3 (by kernel_rfl) H) (fun x119 H => ?_)
                    refine ls_p (d := some 120) (by kernel_rfl) (by rw [hb_3]; kernel_rfl) (p_sGe (by kernel_rfl) (by kernel_rfl) H) (fun x120 H => ?_)
                    refine ls_pick_t (x := x120) (by kernel_rfl) (by rw [hb_3]; kernel_rfl) (by kernel_rfl) ?_
                    refine ls_nil ?_
                    refine then_normal ?_
                    exact ⟨(fun i => ([x118, x119, x120]).getD i undef), x120, by kernel_rfl, HA_14, H⟩
                  · refine ls_skip (d := some 118) (by kernel_rfl) (by rw [hb_3]; kernel_rfl) ?_
                    refine ls_skip (d := some 119) (by kernel_rfl) (by rw [hb_3]; kernel_rfl) ?_
                    refine ls_skip (d := some 120) (by kernel_rfl) (by rw [hb_3]; kernel_rfl) ?_
                    refine ls_pick_f (y := (.bool false)) (by kernel_rfl) (by rw [hb_3]; kernel_rfl) (by kernel_rfl) ?_
                    refine ls_nil ?_
                    refine then_normal ?_
                    exact ⟨(fun i => ([undef, undef, undef]).getD i undef), (.bool false), by kernel_rfl, HA_14, H⟩
                  · rintro _ w_15 ⟨D_5, x121, rfl, HA_15, H⟩
                    refine ls_move (x := x121) (by kernel_rfl) (by kernel_rfl) ?_
                    refine ls_and [(), (), (), (), ()] (fun K a w => ∃ (D_6 : Nat → Value) (x127 : Value), a = ⟨([x0, x1, x2, x3, x4, x5, undef, undef, undef, undef, undef, undef, (.bool false), x22, x26, x29, x16, x17, x86, x0, x20, x21, x22, x1, x24, x25, x26, x22, x26, x29, x29, x31, x29, x2, x3, x35, x29, x37, x38, x2, x22, x41, x42, x43, x3, x26, x46, x47, x48, x49] ++ [x50, x29, x4, x5, x54, x29, x56, x4, x58, x59, x60, x61, x61, (D 0), (D 1), (D 2), (D 3), (D 4), (D 5), (D 6), x70, x70, (D_1 0), (D_1 1), (D_1 2), (D_1 3), (D_1 4), x77, x77, (D_2 0), (D_2 1), (D_2 2), (D_2 3), (D_2 4), (D_2 5), (D_2 6), x86, x86, x86, (D_3 0), (D_3 1), (D_3 2), (D_3 3), (D_3 4), (D_3 5), (D_3 6), (D_3 7), (D_3 8), (D_3 9), (D_3 10)] ++ [(D_3 11), (D_3 12), (D_3 13), (D_3 14), (D_3 15), x105, x29, x107, x108, x109, x110, x110, (D_4 0), (D_4 1), (D_4 2), (D_4 3), x116, x116, (D_5 0), (D_5 1), (D_5 2), x121, x121, (D_6 0), (D_6 1), (D_6 2), (D_6 3), x127, undef, undef, undef, undef, undef, undef, undef, undef, undef]).toArray, []⟩ ∧ At w0 w h_9 ∧ K x127) H (fun hb_2 H => ?_) (fun hb_2 H => ?_) ?_
                    · refine ls_p (d := some 123) (by kernel_rfl) (by rw [hb_2]; kernel_rfl) (p_off Tryd.underlying38 rfl (fun w => ⟨_, Tryd.sizeOf3 w⟩) rfl (by kernel_rfl) H) (fun x123 H => ?_)
                      refine ls_y (d := some 124) (by kernel_rfl) (by rw [hb_2]; kernel_rfl) HA_15 (y_ld Tryd.isAgg3 (by kernel_rfl) H) (fun x124 H => ?_)
                      refine ls_move (x := x26) (by rw [hb_2]; kernel_rfl) (by kernel_rfl) ?_
                      refine ls_p (d := some 126) (by kernel_rfl) (by rw [hb_2]; kernel_rfl) (p_sLt (by kernel_rfl) (by kernel_rfl) H) (fun x126 H => ?_)
                      refine ls_pick_t (x := x126) (by kernel_rfl) (by rw [hb_2]; kernel_rfl) (by kernel_rfl) ?_
                      refine ls_nil ?_
                      refine then_normal ?_
                      exact ⟨(fun i => ([x123, x124, x26, x126]).getD i undef), x126, by kernel_rfl, HA_15, H⟩
                    · refine ls_skip (d := some 123) (by kernel_rfl) (by rw [hb_2]; kernel_rfl) ?_
                      refine ls_skip (d := some 124) (by kernel_rfl) (by rw [hb_2]; kernel_rfl) ?_
                      refine ls_skip (d := some 125) (by kernel_rfl) (by rw [hb_2]; kernel_rfl) ?_
                      refine ls_skip (d := some 126) (by kernel_rfl) (by rw [hb_2]; kernel_rfl) ?_
                      refine ls_pick_f (y := (.bool false)) (by kernel_rfl) (by rw [hb_2]; kernel_rfl) (by kernel_rfl) ?_
                      refine ls_nil ?_
                      refine then_normal ?_
                      exact ⟨(fun i => ([undef, undef, undef, undef]).getD i undef), (.bool false), by kernel_rfl, HA_15, H⟩
                    · rintro _ w_16 ⟨D_6, x127, rfl, HA_16, H⟩
                      refine ls_move (x := x127) (by kernel_rfl) (by kernel_rfl) ?_
                      refine ls_andh [(), (), (), (), ()] (fun K a w => ∃ (D_7 : Nat → Value) (x133 : Value) (h_10 : Heap), a = ⟨([x0, x1, x2, x3, x4, x5, undef, undef, undef, undef, undef, undef, (.bool false), x22, x26, x29, x16, x17, x86, x0, x20, x21, x22, x1, x24, x25, x26, x22, x26, x29, x29, x31, x29, x2, x3, x35, x29, x37, x38, x2, x22, x41, x42, x43, x3, x26, x46, x47, x48, x49] ++ [x50, x29, x4, x5, x54, x29, x56, x4, x58, x59, x60, x61, x61, (D 0), (D 1), (D 2), (D 3), (D 4), (D 5), (D 6), x70, x70, (D_1 0), (D_1 1), (D_1 2), (D_1 3), (D_1 4), x77, x77, (D_2 0), (D_2 1), (D_2 2), (D_2 3), (D_2 4), (D_2 5), (D_2 6), x86, x86, x86, (D_3 0), (D_3 1), (D_3 2), (D_3 3), (D_3 4), (D_3 5), (D_3 6), (D_3 7), (D_3 8), (D_3 9), (D_3 10)] ++ [(D_3 11), (D_3 12), (D_3 13), (D_3 14), (D_3 15), x105, x29, x107, x108, x109, x110, x110, (D_4 0), (D_4 1), (D_4 2), (D_4 3), x116, x116, (D_5 0), (D_5 1), (D_5 2), x121, x121, (D_6 0), (D_6 1), (D_6 2), (D_6 3), x127, x127, (D_7 0), (D_7 1), (D_7 2), (D_7 3), x133, undef, undef, undef]).toArray, []⟩ ∧ At w0 w h_10 ∧ K x133 h_10) H (fun hb_1 H => ?_) (fun hb_1 H => ?_) ?_
                      · refine ls_move (x := x29) (by rw [hb_1]; kernel_rfl) (by kernel_rfl) ?_
                        refine ls_d (d := some 130) (by kernel_rfl) (by rw [hb_1]; kernel_rfl) HA_16 (d_call (by kernel_rfl) (by kernel_rfl) H) (fun x130 h_13 w_20 H HA_20 => ?_)
                        refine ls_p (d := some 131) (by kernel_rfl) (by rw [hb_1]; kernel_rfl) (p_lit (pl := [(0, 1), (1, 1), (2, 1)]) Tryd.zeroValue38 Tryd.underlying38 ⟨(by kernel_rfl), Tryd.sizeOf3, (by kernel_rfl), Tryd.sizeOf3, (by kernel_rfl), Tryd.sizeOf4, trivial⟩ (by kernel_rfl) (by kernel_rfl) H) (fun x131 H => ?_)
                        refine ls_p (d := some 132) (by kernel_rfl) (by rw [hb_1]; kernel_rfl) (p_eqlAgg (eqT_38) (by kernel_rfl) (by kernel_rfl) H) (fun x132 H => ?_)
                        refine ls_pick_t (x := x132) (by kernel_rfl) (by rw [hb_1]; kernel_rfl) (by kernel_rfl) ?_
                        refine ls_nil ?_
                        refine then_normal ?_
                        exact ⟨(fun i => ([x29, x130, x131, x132]).getD i undef), x132, h_13, by kernel_rfl, HA_20, H⟩
                      · refine ls_skip (d := some 129) (by kernel_rfl) (by rw [hb_1]; kernel_rfl) ?_
                        refine ls_skip (d := some 130) (by kernel_rfl) (by rw [hb_1]; kernel_rfl) ?_
                        refine ls_skip (d := some 131) (by kernel_rfl) (by rw [hb_1]; kernel_rfl) ?_
                        refine ls_skip (d := some 132) (by kernel_rfl) (by rw [hb_1]; kernel_rfl) ?_
                        refine ls_pick_f (y := (.bool false)) (by kernel_rfl) (by rw [hb_1]; kernel_rfl) (by kernel_rfl) ?_
                        refine ls_nil ?_
                        refine then_normal ?_
                        exact ⟨(fun i => ([undef, undef, undef, undef]).getD i undef), (.bool false), h_9, by kernel_rfl, HA_16, H⟩
                      · rintro _ w_17 ⟨D_7, x133, h_10, rfl, HA_17, H⟩
                        refine ls_move (x := x133) (by kernel_rfl) (by kernel_rfl) ?_
                        refine ls_andh [(), ()] (fun K a w => ∃ (D_8 : Nat → Value) (x136 : Value) (h_11 : Heap), a = ⟨([x0, x1, x2, x3, x4, x5, undef, undef, undef, undef, undef, undef, (.bool false), x22, x26, x29, x16, x17, x86, x0, x20, x21, x22, x1, x24, x25, x26, x22, x26, x29, x29, x31, x29, x2, x3, x35, x29, x37, x38, x2, x22, x41, x42, x43, x3, x26, x46, x47, x48, x49] ++ [x50, x29, x4, x5, x54, x29, x56, x4, x58, x59, x60, x61, x61, (D 0), (D 1), (D 2), (D 3), (D 4), (D 5), (D 6), x70, x70, (D_1 0), (D_1 1), (D_1 2), (D_1 3), (D_1 4), x77, x77, (D_2 0), (D_2 1), (D_2 2), (D_2 3), (D_2 4), (D_2 5), (D_2 6), x86, x86, x86, (D_3 0), (D_3 1), (D_3 2), (D_3 3), (D_3 4), (D_3 5), (D_3 6), (D_3 7), (D_3 8), (D_3 9), (D_3 10)] ++ [(D_3 11), (D_3 12), (D_3 13), (D_3 14), (D_3 15), x105, x29, x107, x108, x109, x110, x110, (D_4 0), (D_4 1), (D_4 2), (D_4 3), x116, x116, (D_5 0), (D_5 1), (D_5 2), x121, x121, (D_6 0), (D_6 1), (D_6 2), (D_6 3), x127, x127, (D_7 0), (D_7 1), (D_7 2), (D_7 3), x133, x133, (D_8 0), x136]).toArray, []⟩ ∧ At w0 w h_11 ∧ K x136 h_11) H (fun hb H => ?_) (fun hb H => ?_) ?_
                        · refine ls_d (d := some 135) (by kernel_rfl) (by rw [hb]; kernel_rfl) HA_17 (d_call (by kernel_rfl) (by kernel_rfl) H) (fun x135 h_12 w_19 H HA_19 => ?_)
                          refine ls_pick_t (x := x135) (by kernel_rfl) (by rw [hb]; kernel_rfl) (by kernel_rfl) ?_
                          refine ls_nil ?_
                          refine then_normal ?_
                          exact ⟨(fun i => ([x135]).getD i undef), x135, h_12, by kernel_rfl, HA_19, H⟩
                        · refine ls_skip (d := some 135) (by kernel_rfl) (by rw [hb]; kernel_rfl) ?_
                          refine ls_pick_f (y := (.bool false)) (by kernel_rfl) (by rw [hb]; kernel_rfl) (by kernel_rfl) ?_
                          refine ls_nil ?_
                          refine then_normal ?_
                          exact ⟨(fun i => ([undef]).getD i undef), (.bool false), h_10, by kernel_rfl, HA_17, H⟩
                        · rintro _ w_18 ⟨D_8, x136, h_11, rfl, HA_18, H⟩
                          refine ls_assign (x := x136) (by kernel_rfl) (by kernel_rfl) ?_
                          refine ls_nil ?_
                          refine then_normal ?_
                          refine fr_eq (b := ⟨([x0, x1, x2, x3, x4, x5, undef, undef, undef, undef, undef, undef, x136, x22, x26, x29, x16, x17, x86, x0, x20, x21, x22, x1, x24, x25, x26, x22, x26, x29, x29, x31, x29, x2, x3, x35, x29, x37, x38, x2, x22, x41, x42, x43, x3, x26, x46, x47, x48, x49] ++ [x50, x29, x4, x5, x54, x29, x56, x4, x58, x59, x60, x61, x61, (D 0), (D 1), (D 2), (D 3), (D 4), (D 5), (D 6), x70, x70, (D_1 0), (D_1 1), (D_1 2), (D_1 3), (D_1 4), x77, x77, (D_2 0), (D_2 1), (D_2 2), (D_2 3), (D_2 4), (D_2 5), (D_2 6), x86, x86, x86, (D_3 0), (D_3 1), (D_3 2), (D_3 3), (D_3 4), (D_3 5), (D_3 6), (D_3 7), (D_3 8), (D_3 9), (D_3 10)] ++ [(D_3 11), (D_3 12), (D_3 13), (D_3 14), (D_3 15), x105, x29, x107, x108, x109, x110, x110, (D_4 0), (D_4 1), (D_4 2), (D_4 3), x116, x116, (D_5 0), (D_5 1), (D_5 2), x121, x121, (D_6 0), (D_6 1), (D_6 2), (D_6 3), x127, x127, (D_7 0), (D_7 1), (D_7 2), (D_7 3), x133, x133, (D_8 0), x136]).toArray, []⟩) (by kernel_rfl) ?_
                          refine wp_ret ?_
                          exact end1 (Tryd.results4) (by kernel_rfl) (by kernel_rfl) HA_18 H _ (.inr rfl)

end Go.Proofs.YtmhhjpfkipficaaDoor

end

section
/- Screens: the law of moves. -/
set_option linter.unusedSimpArgs false
set_option linter.unusedVariables false
namespace Go.Proofs.YtmhhjpfkipficaaDoor
open Go Go.HW

section
variable {h0 h : Heap} {F : List HP} {R : Value → Heap → Prop} {k kg : Nat} {m : Sc} {C : Cel} {off : List (List Ce)} {a b : Int} {i : Nat}
theorem Moves_spec {x0 x1 x y dx dy : Int} (hG : G h) (hw : 0 ≤ x0 ∧ x0 < 256) (hh : 0 ≤ x1 ∧ x1 < 256) (H : ∀ h', Ext h h' → R (.bool true) h') : betonylaw24_ScreenMoves_c (.int .u8 x0) (.int .u8 x1) (.int .i64 x) (.int .i64 y) (.int .i64 dx) (.int .i64 dy) h R := by
  apply betonylaw24_ScreenMoves_runs
  unfold betonylaw24_ScreenMoves_S
  rw [sz16 (by omega), sz16 (by omega)]
  obtain ⟨a, ha⟩ : ∃ a, 1 + x0 % 16 = a := ⟨_, rfl⟩
  obtain ⟨b, hb⟩ : ∃ b, 1 + x1 % 16 = b := ⟨_, rfl⟩
  rw [ha, hb]
  refine New_spec (by unfold i64; omega) (by unfold i64; omega) (fun hn => (hn (by omega)).elim) (fun hs k st h1 s1 => ?_)
  have e0 : ∀ {K : Value → Prop}, sEqlNil (ptr k 0) K = K (.bool false) := by intro K; simp only [ptr, ev_eqlNil, Option.isNone_some]
  rw [e0, ev_if, if_neg (by decide)]
  have o := newM_ok (st := st) hs
  refine Move_spec (x := x) (y := y) s1 o.g o.w o.t (fun h2 s2 => ?_)
  have hm : moveM (newM a b st) x y = { newM a b st with x := max 0 (min x (a - 1)), y := max 0 (min y (b - 1)) } := by
    unfold moveM newM
    simp only
    rw [if_neg (by decide)]
    simp only [Sc.mk.injEq, true_and, and_true]
    unfold withI mnI mxI
    refine ⟨?_, ?_⟩
    · split <;> split <;> omega
    · repeat' split
      all_goals omega
  rw [hm] at s2
  generalize hX : max 0 (min x (a - 1)) = X at s2
  generalize hY : max 0 (min y (b - 1)) = Y at s2
  have hXr : 0 ≤ X ∧ X < a := by omega
  have hYr : 0 ≤ Y ∧ Y < b := by omega
  have o2 : OkS { newM a b st with x := X, y := Y } := ⟨o.w, o.g, hXr, hYr, o.t, by simp [newM]⟩
  refine Cursor_spec s2 (fun h3 e3 => ?_)
  refine (s2.ext' e3).new (fun b16 h4 s4 => ?_)
  refine s4.stall (cs := curA X Y false) rfl rfl curA_cell (fun h5 s5 => ?_)
  rw [s5.ldall (n := 3) rfl]
  simp (disch := omega) only [ev_sub, wrap_i64, ev_min, ev_max]
  refine build_intro (cs := curA X Y false) ⟨rfl, Nat.le_of_ble_eq_true rfl, rfl, Nat.le_of_ble_eq_true rfl, ?_⟩ ?_
  · have e1 : (if (0 : Int) < (if a - 1 < x then a - 1 else x) then (if a - 1 < x then a - 1 else x) else 0) = X := by rw [← hX]; split <;> split <;> omega
    have e2 : (if (0 : Int) < (if b - 1 < y then b - 1 else y) then (if b - 1 < y then b - 1 else y) else 0) = Y := by rw [← hY]; split <;> split <;> omega
    rw [e1, e2]; rfl
  rw [ne_cur, ceq_eq]
  simp only [beq_self_eq_true, Bool.and_self, Bool.not_true]
  rw [ev_if, if_neg (by decide)]
  obtain ⟨X2, Y2, hm2, hX2, hY2, hin⟩ : ∃ X2 Y2, shiftM { newM a b st with x := X, y := Y } dx dy = { newM a b st with x := X2, y := Y2 } ∧ (0 ≤ X2 ∧ X2 < a) ∧ (0 ≤ Y2 ∧ Y2 < b) ∧ ((-X ≤ dx ∧ dx ≤ a - 1 - X) ∧ (-Y ≤ dy ∧ dy ≤ b - 1 - Y) → X2 = X + dx ∧ Y2 = Y + dy) := by
    refine ⟨withI (X + withI dx (-a) a) 0 (a - 1), withI (Y + withI dy (-b) b) 0 (b - 1), ?_, ?_, ?_, ?_⟩
    · unfold shiftM newM
      simp only
      simp only [Sc.mk.injEq, true_and, and_true]
      rw [if_pos (show Y ≥ 0 by omega), if_pos (show Y ≤ b - 1 by omega)]
    · have := withI_in (n := X + withI dx (-a) a) (show (0 : Int) ≤ a - 1 by omega); omega
    · have := withI_in (n := Y + withI dy (-b) b) (show (0 : Int) ≤ b - 1 by omega); omega
    · rintro ⟨h1, h2⟩
      rw [withI_eq (n := dx) (by omega), withI_eq (n := dy) (by omega), withI_eq (by omega), withI_eq (by omega)]
      exact ⟨rfl, rfl⟩
  refine Shift_spec (dx := dx) (dy := dy) s5.b1 o2 (fun h6 s6 => ?_)
  rw [hm2] at s6
  refine Cursor_spec s6 (fun h7 e7 => ?_)
  refine (s6.ext' e7).new (fun b17 h8 s8 => ?_)
  refine s8.stall (cs := curA X2 Y2 false) rfl rfl curA_cell (fun h9 s9 => ?_)
  have g0 : ∀ {K : Value → Prop}, sLd h9 (ptr b16 0) K = K (.int .i64 X) := s9.b2.ld rfl
  have g1 : ∀ {K : Value → Prop}, sLd h9 (ptr b16 1) K = K (.int .i64 Y) := s9.b2.ld rfl
  have d0 : ∀ {K : Value → Prop}, sLd h9 (ptr b17 0) K = K (.int .i64 X2) := s9.ld rfl
  have d1 : ∀ {K : Value → Prop}, sLd h9 (ptr b17 1) K = K (.int .i64 Y2) := s9.ld rfl
  simp (disch := omega) only [ev_off, Nat.zero_add, g0, g1, d0, d1, ev_neg, Int.zero_sub, wrap_i64, ev_ge, ev_le, ev_sub, ev_and_p, ev_add, ev_ne, ev_or_p, ev_if]
  rw [if_neg (by
    simp only [Bool.and_eq_true, Bool.or_eq_true, decide_eq_true_eq, bne_iff_ne]
    rintro ⟨⟨⟨⟨h1, h2⟩, h3⟩, h4⟩, h5⟩
    obtain ⟨i1, i2⟩ := hin ⟨⟨by omega, by omega⟩, by omega, by omega⟩
    rw [wrap_i64 (by omega) (by omega), wrap_i64 (by omega) (by omega)] at h5
    omega)]
  have o3 : OkS { newM a b st with x := X2, y := Y2 } := ⟨o.w, o.g, hX2, hY2, o.t, by simp [newM]⟩
  refine Move_spec (x := 0) (y := 0) s9.b1 o3.g o3.w o3.t (fun h10 s10 => ?_)
  have hm3 : moveM { newM a b st with x := X2, y := Y2 } 0 0 = newM a b st := by
    unfold moveM newM
    simp only
    rw [if_neg (by decide)]
    simp only [Sc.mk.injEq, true_and, and_true]
    rw [withI_eq (n := 0) (by omega), withI_eq (n := 0) (by omega), withI_eq (by omega)]
    exact ⟨rfl, rfl⟩
  rw [hm3] at s10
  have d0 : ∀ {K : Value → Prop}, sLd h10 (ptr b17 0) K = K (.int .i64 X2) := s10.b1.ld rfl
  have d1 : ∀ {K : Value → Prop}, sLd h10 (ptr b17 1) K = K (.int .i64 Y2) := s10.b1.ld rfl
  simp (disch := omega) only [ev_off, Nat.zero_add, d0, d1, ev_ge, ev_lt, ev_and_p]
  rw [show (decide (X2 ≥ 0) && decide (X2 < a) && decide (Y2 ≥ 0) && decide (Y2 < b)) = true by simp; omega]
  refine and_ext (y := true) (fun _ K' HK => ?_) (fun h11 e11 => ?_)
  · refine Cursor_spec s10 (fun h11 e11 => ?_)
    refine build_intro (cs := curA 0 0 false) rfl ?_
    rw [eq_cur]
    exact HK h11 e11
  refine and_ext (y := true) (fun _ K' HK => ?_) (fun h12 e12 => ?_)
  · exact awake_spec (hG.ext (s10.ext.trans e11)) HK
  exact H h12 ((s10.ext.trans e11).trans e12)
end
end Go.Proofs.YtmhhjpfkipficaaDoor

end
