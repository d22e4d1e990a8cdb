/- The shallow reading of one function, and that the function does it. Written by a program. -/
import Derived.Test.YtkagmlpnidijaaaFnC
set_option linter.unusedVariables false
namespace Go.Proofs.Ytkagmlpnidijaaa
open Go Go.HW

def betonyref05_Apply_j2 (R : Value → Heap → Prop) (x2 x4 x6 : Value) (h_4 : Heap) : Prop :=
  sLen x6 fun x183 =>
  sEq x183 (.int .i64 0) fun x184 =>
  sIf x184 (sLdN h_4 x2 3 fun x185 =>
  sStN h_4 x4 x185 3 fun h_5 => 
  sLdN h_5 x4 3 fun r4_1 =>
  R r4_1 h_5) (sLdN h_4 x2 3 fun x186 =>
  betonyref05_Apply_c x186 x6 h_4 fun x188 h_6 => 
  sStN h_6 x4 x188 3 fun h_7 => 
  sLdN h_7 x4 3 fun r4_2 =>
  R r4_2 h_7)
def betonyref05_Apply_j1 (R : Value → Heap → Prop) (x2 x4 x14 x6 x7 : Value) (h_3 : Heap) : Prop :=
  sEq x14 (.int .i64 38) fun x90 =>
  sIf x90 (sOff x2 0 fun x92 =>
  sSt h_3 x92 x7 fun h_8 => 
  betonyref05_Apply_j2 R x2 x4 x6 h_8) (sEq x14 (.int .i64 48) fun x95 =>
  sIf x95 (sOff x2 1 fun x97 =>
  sSt h_3 x97 x7 fun h_9 => 
  betonyref05_Apply_j2 R x2 x4 x6 h_9) (sEq x14 (.int .i64 0) fun x100 =>
  sIf x100 (sBuild #[.int .i64 0, .int .i64 0, .int .i64 0] [] fun x101 =>
  sStN h_3 x2 x101 3 fun h_10 => 
  betonyref05_Apply_j2 R x2 x4 x6 h_10) (betonyref05_value_c x14 h_3 fun x104 h_11 => 
  sGt x104 (.int .i64 0) fun x105 =>
  sIf x105 (∃ C : Heap → Prop, C h_11 ∧ (sOff x2 2 fun x106 =>
  sLdC C x106 fun x107 =>
  betonyref05_value_c x14 h_11 fun x109 h_12 => C h_12 ∧ (
  betonyref05_set_c x107 x109 h_12 fun x110 h_13 => 
  sOff x2 2 fun x111 =>
  sSt h_13 x111 x110 fun h_14 => 
  betonyref05_Apply_j2 R x2 x4 x6 h_14))) (sEq x14 (.int .i64 22) fun x114 =>
  sIf x114 (sOff x2 2 fun x115 =>
  sLd h_11 x115 fun x116 =>
  betonyref05_gone_c x116 (.int .i64 1) h_11 fun x117 h_15 => 
  betonyref05_gone_c x117 (.int .i64 2) h_15 fun x118 h_16 => 
  sOff x2 2 fun x119 =>
  sSt h_16 x119 x118 fun h_17 => 
  betonyref05_Apply_j2 R x2 x4 x6 h_17) (sGe x14 (.int .i64 23) fun x122 =>
  sAnd x122 (fun k_4 =>
  sLe x14 (.int .i64 29) fun x125 =>
  k_4 x125) fun x126 =>
  sIf x126 (∃ C_1 : Heap → Prop, C_1 h_11 ∧ (sOff x2 2 fun x127 =>
  sLdC C_1 x127 fun x128 =>
  sSub .i64 x14 (.int .i64 20) fun x130 =>
  betonyref05_value_c x130 h_11 fun x131 h_18 => C_1 h_18 ∧ (
  betonyref05_gone_c x128 x131 h_18 fun x132 h_19 => 
  sOff x2 2 fun x133 =>
  sSt h_19 x133 x132 fun h_20 => 
  betonyref05_Apply_j2 R x2 x4 x6 h_20))) (sGe x14 (.int .i64 30) fun x136 =>
  sAnd x136 (fun k_3 =>
  sLe x14 (.int .i64 37) fun x139 =>
  k_3 x139) fun x140 =>
  sIf x140 (sSub .i64 x14 (.int .i64 29) fun x142 =>
  sOff x2 0 fun x143 =>
  sSt h_11 x143 x142 fun h_21 => 
  betonyref05_Apply_j2 R x2 x4 x6 h_21) (sGe x14 (.int .i64 90) fun x146 =>
  sAnd x146 (fun k_2 =>
  sLe x14 (.int .i64 97) fun x149 =>
  k_2 x149) fun x150 =>
  sIf x150 (sSub .i64 x14 (.int .i64 81) fun x152 =>
  sOff x2 0 fun x153 =>
  sSt h_11 x153 x152 fun h_22 => 
  betonyref05_Apply_j2 R x2 x4 x6 h_22) (sGe x14 (.int .i64 40) fun x156 =>
  sAnd x156 (fun k_1 =>
  sLe x14 (.int .i64 47) fun x159 =>
  k_1 x159) fun x160 =>
  sIf x160 (sSub .i64 x14 (.int .i64 39) fun x162 =>
  sOff x2 1 fun x163 =>
  sSt h_11 x163 x162 fun h_23 => 
  betonyref05_Apply_j2 R x2 x4 x6 h_23) (sGe x14 (.int .i64 100) fun x166 =>
  sAnd x166 (fun k =>
  sLe x14 (.int .i64 107) fun x169 =>
  k x169) fun x170 =>
  sIf x170 (sSub .i64 x14 (.int .i64 91) fun x172 =>
  sOff x2 1 fun x173 =>
  sSt h_11 x173 x172 fun h_24 => 
  betonyref05_Apply_j2 R x2 x4 x6 h_24) (sEq x14 (.int .i64 39) fun x176 =>
  sIf x176 (sOff x2 0 fun x177 =>
  sSt h_11 x177 (.int .i64 0) fun h_25 => 
  betonyref05_Apply_j2 R x2 x4 x6 h_25) (sEq x14 (.int .i64 49) fun x180 =>
  sIf x180 (sOff x2 1 fun x181 =>
  sSt h_11 x181 (.int .i64 0) fun h_26 => 
  betonyref05_Apply_j2 R x2 x4 x6 h_26) (betonyref05_Apply_j2 R x2 x4 x6 h_11))))))))))))
def betonyref05_Apply_S (x0 x1 : Value) (h : Heap) (R : Value → Heap → Prop) : Prop :=
  sBox h x0 23 fun x2 h => 
  sNew h #[.int .i64 0, .int .i64 0, .int .i64 0] 23 fun x4 h_1 => 
  sLen x1 fun x9 =>
  sEq x9 (.int .i64 0) fun x10 =>
  sIf x10 (sBuild #[.int .i64 0, .int .i64 0, .int .i64 0] [] fun x11 =>
  sStN h_1 x4 x11 3 fun h_2 => 
  sLdN h_2 x4 3 fun r4 =>
  R r4 h_2) (sIxS x1 (.int .i64 0) 1 fun x13 =>
  sLd h_1 x13 fun x14 =>
  sSl x1 (some (.int .i64 1)) none 1 fun x16 =>
  sEq x14 (.int .i64 38) fun x18 =>
  sOr x18 (fun k_11 =>
  sEq x14 (.int .i64 48) fun x21 =>
  k_11 x21) fun x22 =>
  sIf x22 (sLen x16 fun x24 =>
  sGe x24 (.int .i64 2) fun x25 =>
  sAnd x25 (fun k_10 =>
  sIxS x16 (.int .i64 0) 1 fun x28 =>
  sLd h_1 x28 fun x29 =>
  sEq x29 (.int .i64 5) fun x30 =>
  k_10 x30) fun x31 =>
  sAndH x31 h_1 (fun k_9 =>
  sIxS x16 (.int .i64 1) 1 fun x34 =>
  sLd h_1 x34 fun x35 =>
  betonyref05_part_c x35 h_1 fun x36 h_35 => 
  k_9 x36 h_35) fun x37 h_27 =>
  sIf x37 (sIxS x16 (.int .i64 1) 1 fun x39 =>
  sLd h_27 x39 fun x40 =>
  sAdd .i64 (.int .i64 1) x40 fun x41 =>
  sSl x16 (some (.int .i64 2)) none 1 fun x43 =>
  betonyref05_Apply_j1 R x2 x4 x14 x43 x41 h_27) (sLen x16 fun x45 =>
  sGe x45 (.int .i64 4) fun x46 =>
  sAnd x46 (fun k_8 =>
  sIxS x16 (.int .i64 0) 1 fun x49 =>
  sLd h_27 x49 fun x50 =>
  sEq x50 (.int .i64 2) fun x51 =>
  k_8 x51) fun x52 =>
  sAndH x52 h_27 (fun k_7 =>
  sIxS x16 (.int .i64 1) 1 fun x55 =>
  sLd h_27 x55 fun x56 =>
  betonyref05_part_c x56 h_27 fun x57 h_34 => 
  k_7 x57 h_34) fun x58 h_28 =>
  sAndH x58 h_28 (fun k_6 =>
  sIxS x16 (.int .i64 2) 1 fun x61 =>
  sLd h_28 x61 fun x62 =>
  betonyref05_part_c x62 h_28 fun x63 h_33 => 
  k_6 x63 h_33) fun x64 h_29 =>
  sAndH x64 h_29 (fun k_5 =>
  sIxS x16 (.int .i64 3) 1 fun x67 =>
  sLd h_29 x67 fun x68 =>
  betonyref05_part_c x68 h_29 fun x69 h_32 => 
  k_5 x69 h_32) fun x70 h_30 =>
  sIf x70 (sIxS x16 (.int .i64 1) 1 fun x72 =>
  sLd h_30 x72 fun x73 =>
  sMul .i64 (.int .i64 65536) x73 fun x74 =>
  sAdd .i64 (.int .i64 16777216) x74 fun x75 =>
  sIxS x16 (.int .i64 2) 1 fun x77 =>
  sLd h_30 x77 fun x78 =>
  sMul .i64 (.int .i64 256) x78 fun x79 =>
  sAdd .i64 x75 x79 fun x80 =>
  sIxS x16 (.int .i64 3) 1 fun x82 =>
  sLd h_30 x82 fun x83 =>
  sAdd .i64 x80 x83 fun x84 =>
  sSl x16 (some (.int .i64 4)) none 1 fun x86 =>
  betonyref05_Apply_j1 R x2 x4 x14 x86 x84 h_30) (sLdN h_30 x2 3 fun x87 =>
  sStN h_30 x4 x87 3 fun h_31 => 
  sLdN h_31 x4 3 fun r4_3 =>
  R r4_3 h_31))) (betonyref05_Apply_j1 R x2 x4 x14 x16 (.int .i64 (-1)) h_1))
set_option maxRecDepth 100000 in
theorem betonyref05_Apply_runs {x0 x1 : Value} {h : Heap} {R : Value → Heap → Prop} (H : betonyref05_Apply_S x0 x1 h R) : betonyref05_Apply_c x0 x1 h R := by
  unfold betonyref05_Apply_S at H
  refine runs_of (b := ⟨([x0, x1, undef, undef, undef, undef, undef, undef, undef, undef, undef, undef, undef, undef, undef, undef, undef, undef, undef, undef, undef, undef, undef, undef, undef, undef, undef, undef, undef, undef, undef, undef, undef, undef, undef, undef, undef, undef, undef, undef, undef, undef, undef, undef, undef, undef, undef, undef, undef, undef] ++ [undef, undef, undef, undef, undef, undef, undef, undef, undef, undef, undef, undef, undef, undef, undef, undef, undef, undef, undef, undef, undef, undef, undef, undef, undef, undef, undef, undef, undef, undef, undef, undef, undef, undef, undef, undef, undef, undef, undef, undef, undef, undef, undef, undef, undef, undef, undef, undef, undef, undef] ++ [undef, undef, undef, undef, undef, undef, undef, undef, undef, undef, undef, undef, undef, undef, undef, undef, undef, undef, undef, undef, undef, undef, undef, undef, undef, undef, undef, undef, undef, undef, undef, undef, undef, undef, undef, undef, undef, undef, undef, undef, undef, undef, undef, undef, undef, undef, undef, undef, undef, undef] ++ [undef, undef, undef, undef, undef, undef, undef, undef, undef, undef, undef, undef, undef, undef, undef, undef, undef, undef, undef, undef, undef, undef, undef, undef, undef, undef, undef, undef, undef, undef, undef, undef, undef, undef, undef, undef, undef, undef, undef]).toArray, []⟩) Try.call42 Try.func42 rfl (by kernel_rfl) (fun w0 HA => ?_)
  refine wp_seq ?_
  refine lwp_list ?_
  refine ls_d (d := some 2) (by kernel_rfl) (by kernel_rfl) HA (d_box (by kernel_rfl) H) (fun x2 h w H HA => ?_)
  refine ls_d (d := some 4) (by kernel_rfl) (by kernel_rfl) HA (d_alloc Try.zeroValue23 H) (fun x4 h_1 w_1 H HA_1 => ?_)
  refine ls_nil ?_
  refine then_normal ?_
  refine fr_eq (b := ⟨([x0, x1, x2, undef, x4, undef, undef, undef, undef, undef, undef, undef, undef, undef, undef, undef, undef, undef, undef, undef, undef, undef, undef, undef, undef, undef, undef, undef, undef, undef, undef, undef, undef, undef, undef, undef, undef, undef, undef, undef, undef, undef, undef, undef, undef, undef, undef, undef, undef, undef] ++ [undef, undef, undef, undef, undef, undef, undef, undef, undef, undef, undef, undef, undef, undef, undef, undef, undef, undef, undef, undef, undef, undef, undef, undef, undef, undef, undef, undef, undef, undef, undef, undef, undef, undef, undef, undef, undef, undef, undef, undef, undef, undef, undef, undef, undef, undef, undef, undef, undef, undef] ++ [undef, undef, undef, undef, undef, undef, undef, undef, undef, undef, undef, undef, undef, undef, undef, undef, undef, undef, undef, undef, undef, undef, undef, undef, undef, undef, undef, undef, undef, undef, undef, undef, undef, undef, undef, undef, undef, undef, undef, undef, undef, undef, undef, undef, undef, undef, undef, undef, undef, undef] ++ [undef, undef, undef, undef, undef, undef, undef, undef, undef, undef, undef, undef, undef, undef, undef, undef, undef, undef, undef, undef, undef, undef, undef, undef, undef, undef, undef, undef, undef, undef, undef, undef, undef, undef, undef, undef, undef, undef, undef]).toArray, []⟩) (by kernel_rfl) ?_
  refine wp_seq ?_
  refine wp_seq ?_
  refine lwp_list ?_
  refine ls_move (x := x1) (by kernel_rfl) (by kernel_rfl) ?_
  refine ls_p (d := some 9) (by kernel_rfl) (by kernel_rfl) (p_len Try.underlying24 (by kernel_rfl) H) (fun x9 H => ?_)
  refine ls_p (d := some 10) (by kernel_rfl) (by kernel_rfl) (p_sEq (by kernel_rfl) (by kernel_rfl) H) (fun x10 H => ?_)
  refine ls_nil ?_
  refine then_normal ?_
  refine fr_eq (b := ⟨([x0, x1, x2, undef, x4, undef, undef, undef, x1, x9, x10, undef, undef, undef, undef, undef, undef, undef, undef, undef, undef, undef, undef, undef, undef, undef, undef, undef, undef, undef, undef, undef, undef, undef, undef, undef, undef, undef, undef, undef, undef, undef, undef, undef, undef, undef, undef, undef, undef, undef] ++ [undef, undef, undef, undef, undef, undef, undef, undef, undef, undef, undef, undef, undef, undef, undef, undef, undef, undef, undef, undef, undef, undef, undef, undef, undef, undef, undef, undef, undef, undef, undef, undef, undef, undef, undef, undef, undef, undef, undef, undef, undef, undef, undef, undef, undef, undef, undef, undef, undef, undef] ++ [undef, undef, undef, undef, undef, undef, undef, undef, undef, undef, undef, undef, undef, undef, undef, undef, undef, undef, undef, undef, undef, undef, undef, undef, undef, undef, undef, undef, undef, undef, undef, undef, undef, undef, undef, undef, undef, undef, undef, undef, undef, undef, undef, undef, undef, undef, undef, undef, undef, undef] ++ [undef, undef, undef, undef, undef, undef, undef, undef, undef, undef, undef, undef, undef, undef, undef, undef, undef, undef, undef, undef, undef, undef, undef, undef, undef, undef, undef, undef, undef, undef, undef, undef, undef, undef, undef, undef, undef, undef, undef]).toArray, []⟩) (by kernel_rfl) ?_
  refine wp_if rfl H (fun H => ?_) (fun H => ?_)
  · refine wp_seq ?_
    refine lwp_list ?_
    refine ls_p (d := some 11) (by kernel_rfl) (by kernel_rfl) (p_lit (pl := [(0, 1), (1, 1), (2, 1)]) Try.zeroValue23 Try.underlying23 ⟨(by kernel_rfl), Try.sizeOf3, (by kernel_rfl), Try.sizeOf3, (by kernel_rfl), Try.sizeOf3, trivial⟩ (by kernel_rfl) (by kernel_rfl) H) (fun x11 H => ?_)
    refine ls_d (d := none) (by kernel_rfl) (by kernel_rfl) HA_1 (d_stn Try.sizeOf23 (by kernel_rfl) (by kernel_rfl) H) (fun _ h_2 w_2 H HA_2 => ?_)
    refine ls_nil ?_
    refine then_normal ?_
    refine fr_eq (b := ⟨([x0, x1, x2, undef, x4, undef, undef, undef, x1, x9, x10, x11, undef, undef, undef, undef, undef, undef, undef, undef, undef, undef, undef, undef, undef, undef, undef, undef, undef, undef, undef, undef, undef, undef, undef, undef, undef, undef, undef, undef, undef, undef, undef, undef, undef, undef, undef, undef, undef, undef] ++ [undef, undef, undef, undef, undef, undef, undef, undef, undef, undef, undef, undef, undef, undef, undef, undef, undef, undef, undef, undef, undef, undef, undef, undef, undef, undef, undef, undef, undef, undef, undef, undef, undef, undef, undef, undef, undef, undef, undef, undef, undef, undef, undef, undef, undef, undef, undef, undef, undef, undef] ++ [undef, undef, undef, undef, undef, undef, undef, undef, undef, undef, undef, undef, undef, undef, undef, undef, undef, undef, undef, undef, undef, undef, undef, undef, undef, undef, undef, undef, undef, undef, undef, undef, undef, undef, undef, undef, undef, undef, undef, undef, undef, undef, undef, undef, undef, undef, undef, undef, undef, undef] ++ [undef, undef, undef, undef, undef, undef, undef, undef, undef, undef, undef, undef, undef, undef, undef, undef, undef, undef, undef, undef, undef, undef, undef, undef, undef, undef, undef, undef, undef, undef, undef, undef, undef, undef, undef, undef, undef, undef, undef]).toArray, []⟩) (by kernel_rfl) ?_
    refine wp_ret ?_
    refine then_ret ?_
    obtain ⟨r4, hr4, H⟩ := ld_n Try.isAgg23 Try.sizeOf23 H
    exact endR (vs := [r4]) (Try.results42) (by kernel_rfl) ⟨⟨_, (by kernel_rfl), hr4⟩, trivial⟩ HA_2 H _ (.inr rfl)
  · refine wp_skip ?_
    refine then_normal ?_
    refine fr_eq (b := ⟨([x0, x1, x2, undef, x4, undef, undef, undef, x1, x9, x10, undef, undef, undef, undef, undef, undef, undef, undef, undef, undef, undef, undef, undef, undef, undef, undef, undef, undef, undef, undef, undef, undef, undef, undef, undef, undef, undef, undef, undef, undef, undef, undef, undef, undef, undef, undef, undef, undef, undef] ++ [undef, undef, undef, undef, undef, undef, undef, undef, undef, undef, undef, undef, undef, undef, undef, undef, undef, undef, undef, undef, undef, undef, undef, undef, undef, undef, undef, undef, undef, undef, undef, undef, undef, undef, undef, undef, undef, undef, undef, undef, undef, undef, undef, undef, undef, undef, undef, undef, undef, undef] ++ [undef, undef, undef, undef, undef, undef, undef, undef, undef, undef, undef, undef, undef, undef, undef, undef, undef, undef, undef, undef, undef, undef, undef, undef, undef, undef, undef, undef, undef, undef, undef, undef, undef, undef, undef, undef, undef, undef, undef, undef, undef, undef, undef, undef, undef, undef, undef, undef, undef, undef] ++ [undef, undef, undef, undef, undef, undef, undef, undef, undef, undef, undef, undef, undef, undef, undef, undef, undef, undef, undef, undef, undef, undef, undef, undef, undef, undef, undef, undef, undef, undef, undef, undef, undef, undef, undef, undef, undef, undef, undef]).toArray, []⟩) (by kernel_rfl) ?_
    refine wp_seq ?_
    refine lwp_list ?_
    refine ls_move (x := x1) (by kernel_rfl) (by kernel_rfl) ?_
    refine ls_p (d := some 13) (by kernel_rfl) (by kernel_rfl) (p_ixs Try.underlying24 Try.sizeOf3 (by kernel_rfl) (by kernel_rfl) H) (fun x13 H => ?_)
    refine ls_y (d := some 14) (by kernel_rfl) (by kernel_rfl) HA_1 (y_ld Try.isAgg3 (by kernel_rfl) H) (fun x14 H => ?_)
    refine ls_assign (x := x14) (by kernel_rfl) (by kernel_rfl) ?_
    refine ls_nil ?_
    refine then_normal ?_
    refine fr_eq (b := ⟨([x0, x1, x2, undef, x4, x14, undef, undef, x1, x9, x10, undef, x1, x13, x14, undef, undef, undef, undef, undef, undef, undef, undef, undef, undef, undef, undef, undef, undef, undef, undef, undef, undef, undef, undef, undef, undef, undef, undef, undef, undef, undef, undef, undef, undef, undef, undef, undef, undef, undef] ++ [undef, undef, undef, undef, undef, undef, undef, undef, undef, undef, undef, undef, undef, undef, undef, undef, undef, undef, undef, undef, undef, undef, undef, undef, undef, undef, undef, undef, undef, undef, undef, undef, undef, undef, undef, undef, undef, undef, undef, undef, undef, undef, undef, undef, undef, undef, undef, undef, undef, undef] ++ [undef, undef, undef, undef, undef, undef, undef, undef, undef, undef, undef, undef, undef, undef, undef, undef, undef, undef, undef, undef, undef, undef, undef, undef, undef, undef, undef, undef, undef, undef, undef, undef, undef, undef, undef, undef, undef, undef, undef, undef, undef, undef, undef, undef, undef, undef, undef, undef, undef, undef] ++ [undef, undef, undef, undef, undef, undef, undef, undef, undef, undef, undef, undef, undef, undef, undef, undef, undef, undef, undef, undef, undef, undef, undef, undef, undef, undef, undef, undef, undef, undef, undef, undef, undef, undef, undef, undef, undef, undef, undef]).toArray, []⟩) (by kernel_rfl) ?_
    refine wp_seq ?_
    refine lwp_list ?_
    refine ls_move (x := x1) (by kernel_rfl) (by kernel_rfl) ?_
    refine ls_p (d := some 16) (by kernel_rfl) (by kernel_rfl) (p_sl Try.underlying24 Try.sizeOf3 (by kernel_rfl) (by kernel_rfl) (by kernel_rfl) H) (fun x16 H => ?_)
    refine ls_assign (x := x16) (by kernel_rfl) (by kernel_rfl) ?_
    refine ls_nil ?_
    refine then_normal ?_
    refine fr_eq (b := ⟨([x0, x1, x2, undef, x4, x14, x16, undef, x1, x9, x10, undef, x1, x13, x14, x1, x16, undef, undef, undef, undef, undef, undef, undef, undef, undef, undef, undef, undef, undef, undef, undef, undef, undef, undef, undef, undef, undef, undef, undef, undef, undef, undef, undef, undef, undef, undef, undef, undef, undef] ++ [undef, undef, undef, undef, undef, undef, undef, undef, undef, undef, undef, undef, undef, undef, undef, undef, undef, undef, undef, undef, undef, undef, undef, undef, undef, undef, undef, undef, undef, undef, undef, undef, undef, undef, undef, undef, undef, undef, undef, undef, undef, undef, undef, undef, undef, undef, undef, undef, undef, undef] ++ [undef, undef, undef, undef, undef, undef, undef, undef, undef, undef, undef, undef, undef, undef, undef, undef, undef, undef, undef, undef, undef, undef, undef, undef, undef, undef, undef, undef, undef, undef, undef, undef, undef, undef, undef, undef, undef, undef, undef, undef, undef, undef, undef, undef, undef, undef, undef, undef, undef, undef] ++ [undef, undef, undef, undef, undef, undef, undef, undef, undef, undef, undef, undef, undef, undef, undef, undef, undef, undef, undef, undef, undef, undef, undef, undef, undef, undef, undef, undef, undef, undef, undef, undef, undef, undef, undef, undef, undef, undef, undef]).toArray, []⟩) (by kernel_rfl) ?_
    refine wp_seq ?_
    refine lwp_list ?_
    refine ls_assign (x := (.int .i64 (-1))) (by kernel_rfl) (by kernel_rfl) ?_
    refine ls_nil ?_
    refine then_normal ?_
    refine fr_eq (b := ⟨([x0, x1, x2, undef, x4, x14, x16, (.int .i64 (-1)), x1, x9, x10, undef, x1, x13, x14, x1, x16, undef, undef, undef, undef, undef, undef, undef, undef, undef, undef, undef, undef, undef, undef, undef, undef, undef, undef, undef, undef, undef, undef, undef, undef, undef, undef, undef, undef, undef, undef, undef, undef, undef] ++ [undef, undef, undef, undef, undef, undef, undef, undef, undef, undef, undef, undef, undef, undef, undef, undef, undef, undef, undef, undef, undef, undef, undef, undef, undef, undef, undef, undef, undef, undef, undef, undef, undef, undef, undef, undef, undef, undef, undef, undef, undef, undef, undef, undef, undef, undef, undef, undef, undef, undef] ++ [undef, undef, undef, undef, undef, undef, undef, undef, undef, undef, undef, undef, undef, undef, undef, undef, undef, undef, undef, undef, undef, undef, undef, undef, undef, undef, undef, undef, undef, undef, undef, undef, undef, undef, undef, undef, undef, undef, undef, undef, undef, undef, undef, undef, undef, undef, undef, undef, undef, undef] ++ [undef, undef, undef, undef, undef, undef, undef, undef, undef, undef, undef, undef, undef, undef, undef, undef, undef, undef, undef, undef, undef, undef, undef, undef, undef, undef, undef, undef, undef, undef, undef, undef, undef, undef, undef, undef, undef, undef, undef]).toArray, []⟩) (by kernel_rfl) ?_
    refine wp_seq ?_
    refine wp_seq ?_
    refine lwp_list ?_
    refine ls_move (x := x14) (by kernel_rfl) (by kernel_rfl) ?_
    refine ls_p (d := some 18) (by kernel_rfl) (by kernel_rfl) (p_sEq (by kernel_rfl) (by kernel_rfl) H) (fun x18 H => ?_)
    refine ls_move (x := x18) (by kernel_rfl) (by kernel_rfl) ?_
    refine ls_or [(), (), ()] (fun K a w => ∃ (D : Nat → Value) (x22 : Value), a = ⟨([x0, x1, x2, undef, x4, x14, x16, (.int .i64 (-1)), x1, x9, x10, undef, x1, x13, x14, x1, x16, x14, x18, x18, (D 0), (D 1), x22, undef, undef, undef, undef, undef, undef, undef, undef, undef, undef, undef, undef, undef, undef, undef, undef, undef, undef, undef, undef, undef, undef, undef, undef, undef, undef, undef] ++ [undef, undef, undef, undef, undef, undef, undef, undef, undef, undef, undef, undef, undef, undef, undef, undef, undef, undef, undef, undef, undef, undef, undef, undef, undef, undef, undef, undef, undef, undef, undef, undef, undef, undef, undef, undef, undef, undef, undef, undef, undef, undef, undef, undef, undef, undef, undef, undef, undef, undef] ++ [undef, undef, undef, undef, undef, undef, undef, undef, undef, undef, undef, undef, undef, undef, undef, undef, undef, undef, undef, undef, undef, undef, undef, undef, undef, undef, undef, undef, undef, undef, undef, undef, undef, undef, undef, undef, undef, undef, undef, undef, undef, undef, undef, undef, undef, undef, undef, undef, undef, undef] ++ [undef, undef, undef, undef, undef, undef, undef, undef, undef, undef, undef, undef, undef, undef, undef, undef, undef, undef, undef, undef, undef, undef, undef, undef, undef, undef, undef, undef, undef, undef, undef, undef, undef, undef, undef, undef, undef, undef, undef]).toArray, []⟩ ∧ At w0 w h_1 ∧ K x22) H (fun hb_11 H => ?_) (fun hb_11 H => ?_) ?_
    · refine ls_move (x := x14) (by rw [hb_11]; kernel_rfl) (by kernel_rfl) ?_
      refine ls_p (d := some 21) (by kernel_rfl) (by rw [hb_11]; kernel_rfl) (p_sEq (by kernel_rfl) (by kernel_rfl) H) (fun x21 H => ?_)
      refine ls_pick_f (y := x21) (by kernel_rfl) (by rw [hb_11]; kernel_rfl) (by kernel_rfl) ?_
      refine ls_nil ?_
      refine then_normal ?_
      exact ⟨(fun i => ([x14, x21]).getD i undef), x21, by kernel_rfl, HA_1, H⟩
    · refine ls_skip (d := some 20) (by kernel_rfl) (by rw [hb_11]; kernel_rfl) ?_
      refine ls_skip (d := some 21) (by kernel_rfl) (by rw [hb_11]; kernel_rfl) ?_
      refine ls_pick_t (x := (.bool true)) (by kernel_rfl) (by rw [hb_11]; kernel_rfl) (by kernel_rfl) ?_
      refine ls_nil ?_
      refine then_normal ?_
      exact ⟨(fun i => ([undef, undef]).getD i undef), (.bool true), by kernel_rfl, HA_1, H⟩
    · rintro _ w_3 ⟨D, x22, rfl, HA_3, H⟩
      refine ls_nil ?_
      refine then_normal ?_
      refine fr_eq (b := ⟨([x0, x1, x2, undef, x4, x14, x16, (.int .i64 (-1)), x1, x9, x10, undef, x1, x13, x14, x1, x16, x14, x18, x18, (D 0), (D 1), x22, undef, undef, undef, undef, undef, undef, undef, undef, undef, undef, undef, undef, undef, undef, undef, undef, undef, undef, undef, undef, undef, undef, undef, undef, undef, undef, undef] ++ [undef, undef, undef, undef, undef, undef, undef, undef, undef, undef, undef, undef, undef, undef, undef, undef, undef, undef, undef, undef, undef, undef, undef, undef, undef, undef, undef, undef, undef, undef, undef, undef, undef, undef, undef, undef, undef, undef, undef, undef, undef, undef, undef, undef, undef, undef, undef, undef, undef, undef] ++ [undef, undef, undef, undef, undef, undef, undef, undef, undef, undef, undef, undef, undef, undef, undef, undef, undef, undef, undef, undef, undef, undef, undef, undef, undef, undef, undef, undef, undef, undef, undef, undef, undef, undef, undef, undef, undef, undef, undef, undef, undef, undef, undef, undef, undef, undef, undef, undef, undef, undef] ++ [undef, undef, undef, undef, undef, undef, undef, undef, undef, undef, undef, undef, undef, undef, undef, undef, undef, undef, undef, undef, undef, undef, undef, undef, undef, undef, undef, undef, undef, undef, undef, undef, undef, undef, undef, undef, undef, undef, undef]).toArray, []⟩) (by kernel_rfl) ?_
      refine wp_join (fun a w => ∃ (D_1 : Nat → Value) (x6 x7 : Value) (h_3 : Heap), a = ⟨([x0, x1, x2, undef, x4, x14, x6, x7, x1, x9, x10, undef, x1, x13, x14, x1, x16, x14, x18, x18, (D 0), (D 1), x22, (D_1 0), (D_1 1), (D_1 2), (D_1 3), (D_1 4), (D_1 5), (D_1 6), (D_1 7), (D_1 8), (D_1 9), (D_1 10), (D_1 11), (D_1 12), (D_1 13), (D_1 14), (D_1 15), (D_1 16), (D_1 17), (D_1 18), (D_1 19), (D_1 20), (D_1 21), (D_1 22), (D_1 23), (D_1 24), (D_1 25), (D_1 26)] ++ [(D_1 27), (D_1 28), (D_1 29), (D_1 30), (D_1 31), (D_1 32), (D_1 33), (D_1 34), (D_1 35), (D_1 36), (D_1 37), (D_1 38), (D_1 39), (D_1 40), (D_1 41), (D_1 42), (D_1 43), (D_1 44), (D_1 45), (D_1 46), (D_1 47), (D_1 48), (D_1 49), (D_1 50), (D_1 51), (D_1 52), (D_1 53), (D_1 54), (D_1 55), (D_1 56), (D_1 57), (D_1 58), (D_1 59), (D_1 60), (D_1 61), (D_1 62), (D_1 63), (D_1 64), undef, undef, undef, undef, undef, undef, undef, undef, undef, undef, undef, undef] ++ [undef, undef, undef, undef, undef, undef, undef, undef, undef, undef, undef, undef, undef, undef, undef, undef, undef, undef, undef, undef, undef, undef, undef, undef, undef, undef, undef, undef, undef, undef, undef, undef, undef, undef, undef, undef, undef, undef, undef, undef, undef, undef, undef, undef, undef, undef, undef, undef, undef, undef] ++ [undef, undef, undef, undef, undef, undef, undef, undef, undef, undef, undef, undef, undef, undef, undef, undef, undef, undef, undef, undef, undef, undef, undef, undef, undef, undef, undef, undef, undef, undef, undef, undef, undef, undef, undef, undef, undef, undef, undef]).toArray, []⟩ ∧ At w0 w h_3 ∧ betonyref05_Apply_j1 R x2 x4 x14 x6 x7 h_3) ?_ ?_
      · refine wp_if rfl H (fun H => ?_) (fun H => ?_)
        · refine wp_seq ?_
          refine lwp_list ?_
          refine ls_move (x := x16) (by kernel_rfl) (by kernel_rfl) ?_
          refine ls_p (d := some 24) (by kernel_rfl) (by kernel_rfl) (p_len Try.underlying24 (by kernel_rfl) H) (fun x24 H => ?_)
          refine ls_p (d := some 25) (by kernel_rfl) (by kernel_rfl) (p_sGe (by kernel_rfl) (by kernel_rfl) H) (fun x25 H => ?_)
          refine ls_move (x := x25) (by kernel_rfl) (by kernel_rfl) ?_
          refine ls_and [(), (), (), (), ()] (fun K a w => ∃ (D_8 : Nat → Value) (x31 : Value), a = ⟨([x0, x1, x2, undef, x4, x14, x16, (.int .i64 (-1)), x1, x9, x10, undef, x1, x13, x14, x1, x16, x14, x18, x18, (D 0), (D 1), x22, x16, x24, x25, x25, (D_8 0), (D_8 1), (D_8 2), (D_8 3), x31, undef, undef, undef, undef, undef, undef, undef, undef, undef, undef, undef, undef, undef, undef, undef, undef, undef, undef] ++ [undef, undef, undef, undef, undef, undef, undef, undef, undef, undef, undef, undef, undef, undef, undef, undef, undef, undef, undef, undef, undef, undef, undef, undef, undef, undef, undef, undef, undef, undef, undef, undef, undef, undef, undef, undef, undef, undef, undef, undef, undef, undef, undef, undef, undef, undef, undef, undef, undef, undef] ++ [undef, undef, undef, undef, undef, undef, undef, undef, undef, undef, undef, undef, undef, undef, undef, undef, undef, undef, undef, undef, undef, undef, undef, undef, undef, undef, undef, undef, undef, undef, undef, undef, undef, undef, undef, undef, undef, undef, undef, undef, undef, undef, undef, undef, undef, undef, undef, undef, undef, undef] ++ [undef, undef, undef, undef, undef, undef, undef, undef, undef, undef, undef, undef, undef, undef, undef, undef, undef, undef, undef, undef, undef, undef, undef, undef, undef, undef, undef, undef, undef, undef, undef, undef, undef, undef, undef, undef, undef, undef, undef]).toArray, []⟩ ∧ At w0 w h_1 ∧ K x31) H (fun hb_10 H => ?_) (fun hb_10 H => ?_) ?_
          · refine ls_move (x := x16) (by rw [hb_10]; kernel_rfl) (by kernel_rfl) ?_
            refine ls_p (d := some 28) (by kernel_rfl) (by rw [hb_10]; kernel_rfl) (p_ixs Try.underlying24 Try.sizeOf3 (by kernel_rfl) (by kernel_rfl) H) (fun x28 H => ?_)
            refine ls_fr (b := ⟨([x0, x1, x2, undef, x4, x14, x16, (.int .i64 (-1)), x1, x9, x10, undef, x1, x13, x14, x1, x16, x14, x18, x18, (D 0), (D 1), x22, x16, x24, x25, x25, x16, x28, undef, undef, undef, undef, undef, undef, undef, undef, undef, undef, undef, undef, undef, undef, undef, undef, undef, undef, undef, undef, undef] ++ [undef, undef, undef, undef, undef, undef, undef, undef, undef, undef, undef, undef, undef, undef, undef, undef, undef, undef, undef, undef, undef, undef, undef, undef, undef, undef, undef, undef, undef, undef, undef, undef, undef, undef, undef, undef, undef, undef, undef, undef, undef, undef, undef, undef, undef, undef, undef, undef, undef, undef] ++ [undef, undef, undef, undef, undef, undef, undef, undef, undef, undef, undef, undef, undef, undef, undef, undef, undef, undef, undef, undef, undef, undef, undef, undef, undef, undef, undef, undef, undef, undef, undef, undef, undef, undef, undef, undef, undef, undef, undef, undef, undef, undef, undef, undef, undef, undef, undef, undef, undef, undef] ++ [undef, undef, undef, undef, undef, undef, undef, undef, undef, undef, undef, undef, undef, undef, undef, undef, undef, undef, undef, undef, undef, undef, undef, undef, undef, undef, undef, undef, undef, undef, undef, undef, undef, undef, undef, undef, undef, undef, undef]).toArray, []⟩) (by kernel_rfl) ?_
            refine ls_y (d := some 29) (by kernel_rfl) (by rw [hb_10]; kernel_rfl) HA_3 (y_ld Try.isAgg3 (by kernel_rfl) H) (fun x29 H => ?_)
            refine ls_p (d := some 30) (by kernel_rfl) (by rw [hb_10]; kernel_rfl) (p_sEq (by kernel_rfl) (by kernel_rfl) H) (fun x30 H => ?_)
            refine ls_pick_t (x := x30) (by kernel_rfl) (by rw [hb_10]; kernel_rfl) (by kernel_rfl) ?_
            refine ls_nil ?_
            refine then_normal ?_
            exact ⟨(fun i => ([x16, x28, x29, x30]).getD i undef), x30, by kernel_rfl, HA_3, H⟩
          · refine ls_skip (d := some 27) (by kernel_rfl) (by rw [hb_10]; kernel_rfl) ?_
            refine ls_skip (d := some 28) (by kernel_rfl) (by rw [hb_10]; kernel_rfl) ?_
            refine ls_fr (b := ⟨([x0, x1, x2, undef, x4, x14, x16, (.int .i64 (-1)), x1, x9, x10, undef, x1, x13, x14, x1, x16, x14, x18, x18, (D 0), (D 1), x22, x16, x24, x25, x25, undef, undef, undef, undef, undef, undef, undef, undef, undef, undef, undef, undef, undef, undef, undef, undef, undef, undef, undef, undef, undef, undef, undef] ++ [undef, undef, undef, undef, undef, undef, undef, undef, undef, undef, undef, undef, undef, undef, undef, undef, undef, undef, undef, undef, undef, undef, undef, undef, undef, undef, undef, undef, undef, undef, undef, undef, undef, undef, undef, undef, undef, undef, undef, undef, undef, undef, undef, undef, undef, undef, undef, undef, undef, undef] ++ [undef, undef, undef, undef, undef, undef, undef, undef, undef, undef, undef, undef, undef, undef, undef, undef, undef, undef, undef, undef, undef, undef, undef, undef, undef, undef, undef, undef, undef, undef, undef, undef, undef, undef, undef, undef, undef, undef, undef, undef, undef, undef, undef, undef, undef, undef, undef, undef, undef, undef] ++ [undef, undef, undef, undef, undef, undef, undef, undef, undef, undef, undef, undef, undef, undef, undef, undef, undef, undef, undef, undef, undef, undef, undef, undef, undef, undef, undef, undef, undef, undef, undef, undef, undef, undef, undef, undef, undef, undef, undef]).toArray, []⟩) (by kernel_rfl) ?_
            refine ls_skip (d := some 29) (by kernel_rfl) (by rw [hb_10]; kernel_rfl) ?_
            refine ls_skip (d := some 30) (by kernel_rfl) (by rw [hb_10]; kernel_rfl) ?_
            refine ls_pick_f (y := (.bool false)) (by kernel_rfl) (by rw [hb_10]; kernel_rfl) (by kernel_rfl) ?_
            refine ls_nil ?_
            refine then_normal ?_
            exact ⟨(fun i => ([undef, undef, undef, undef]).getD i undef), (.bool false), by kernel_rfl, HA_3, H⟩
          · rintro _ w_35 ⟨D_8, x31, rfl, HA_35, H⟩
            refine ls_move (x := x31) (by kernel_rfl) (by kernel_rfl) ?_
            refine ls_andh [(), (), (), (), ()] (fun K a w => ∃ (D_9 : Nat → Value) (x37 : Value) (h_27 : Heap), a = ⟨([x0, x1, x2, undef, x4, x14, x16, (.int .i64 (-1)), x1, x9, x10, undef, x1, x13, x14, x1, x16, x14, x18, x18, (D 0), (D 1), x22, x16, x24, x25, x25, (D_8 0), (D_8 1), (D_8 2), (D_8 3), x31, x31, (D_9 0), (D_9 1), (D_9 2), (D_9 3), x37, undef, undef, undef, undef, undef, undef, undef, undef, undef, undef, undef, undef] ++ [undef, undef, undef, undef, undef, undef, undef, undef, undef, undef, undef, undef, undef, undef, undef, undef, undef, undef, undef, undef, undef, undef, undef, undef, undef, undef, undef, undef, undef, undef, undef, undef, undef, undef, undef, undef, undef, undef, undef, undef, undef, undef, undef, undef, undef, undef, undef, undef, undef, undef] ++ [undef, undef, undef, undef, undef, undef, undef, undef, undef, undef, undef, undef, undef, undef, undef, undef, undef, undef, undef, undef, undef, undef, undef, undef, undef, undef, undef, undef, undef, undef, undef, undef, undef, undef, undef, undef, undef, undef, undef, undef, undef, undef, undef, undef, undef, undef, undef, undef, undef, undef] ++ [undef, undef, undef, undef, undef, undef, undef, undef, undef, undef, undef, undef, undef, undef, undef, undef, undef, undef, undef, undef, undef, undef, undef, undef, undef, undef, undef, undef, undef, undef, undef, undef, undef, undef, undef, undef, undef, undef, undef]).toArray, []⟩ ∧ At w0 w h_27 ∧ K x37 h_27) H (fun hb_9 H => ?_) (fun hb_9 H => ?_) ?_
            · refine ls_move (x := x16) (by rw [hb_9]; kernel_rfl) (by kernel_rfl) ?_
              refine ls_p (d := some 34) (by kernel_rfl) (by rw [hb_9]; kernel_rfl) (p_ixs Try.underlying24 Try.sizeOf3 (by kernel_rfl) (by kernel_rfl) H) (fun x34 H => ?_)
              refine ls_y (d := some 35) (by kernel_rfl) (by rw [hb_9]; kernel_rfl) HA_35 (y_ld Try.isAgg3 (by kernel_rfl) H) (fun x35 H => ?_)
              refine ls_d (d := some 36) (by kernel_rfl) (by rw [hb_9]; kernel_rfl) HA_35 (d_call (by kernel_rfl) (by kernel_rfl) H) (fun x36 h_35 w_46 H HA_46 => ?_)
              refine ls_pick_t (x := x36) (by kernel_rfl) (by rw [hb_9]; kernel_rfl) (by kernel_rfl) ?_
              refine ls_nil ?_
              refine then_normal ?_
              exact ⟨(fun i => ([x16, x34, x35, x36]).getD i undef), x36, h_35, by kernel_rfl, HA_46, H⟩
            · refine ls_skip (d := some 33) (by kernel_rfl) (by rw [hb_9]; kernel_rfl) ?_
              refine ls_skip (d := some 34) (by kernel_rfl) (by rw [hb_9]; kernel_rfl) ?_
              refine ls_skip (d := some 35) (by kernel_rfl) (by rw [hb_9]; kernel_rfl) ?_
              refine ls_skip (d := some 36) (by kernel_rfl) (by rw [hb_9]; kernel_rfl) ?_
              refine ls_pick_f (y := (.bool false)) (by kernel_rfl) (by rw [hb_9]; kernel_rfl) (by kernel_rfl) ?_
              refine ls_nil ?_
              refine then_normal ?_
              exact ⟨(fun i => ([undef, undef, undef, undef]).getD i undef), (.bool false), h_1, by kernel_rfl, HA_35, H⟩
            · rintro _ w_36 ⟨D_9, x37, h_27, rfl, HA_36, H⟩
              refine ls_nil ?_
              refine then_normal ?_
              refine fr_eq (b := ⟨([x0, x1, x2, undef, x4, x14, x16, (.int .i64 (-1)), x1, x9, x10, undef, x1, x13, x14, x1, x16, x14, x18, x18, (D 0), (D 1), x22, x16, x24, x25, x25, (D_8 0), (D_8 1), (D_8 2), (D_8 3), x31, x31, (D_9 0), (D_9 1), (D_9 2), (D_9 3), x37, undef, undef, undef, undef, undef, undef, undef, undef, undef, undef, undef, undef] ++ [undef, undef, undef, undef, undef, undef, undef, undef, undef, undef, undef, undef, undef, undef, undef, undef, undef, undef, undef, undef, undef, undef, undef, undef, undef, undef, undef, undef, undef, undef, undef, undef, undef, undef, undef, undef, undef, undef, undef, undef, undef, undef, undef, undef, undef, undef, undef, undef, undef, undef] ++ [undef, undef, undef, undef, undef, undef, undef, undef, undef, undef, undef, undef, undef, undef, undef, undef, undef, undef, undef, undef, undef, undef, undef, undef, undef, undef, undef, undef, undef, undef, undef, undef, undef, undef, undef, undef, undef, undef, undef, undef, undef, undef, undef, undef, undef, undef, undef, undef, undef, undef] ++ [undef, undef, undef, undef, undef, undef, undef, undef, undef, undef, undef, undef, undef, undef, undef, undef, undef, undef, undef, undef, undef, undef, undef, undef, undef, undef, undef, undef, undef, undef, undef, undef, undef, undef, undef, undef, undef, undef, undef]).toArray, []⟩) (by kernel_rfl) ?_
              refine wp_if rfl H (fun H => ?_) (fun H => ?_)
              · refine wp_seq ?_
                refine lwp_list ?_
                refine ls_move (x := x16) (by kernel_rfl) (by kernel_rfl) ?_
                refine ls_p (d := some 39) (by kernel_rfl) (by kernel_rfl) (p_ixs Try.underlying24 Try.sizeOf3 (by kernel_rfl) (by kernel_rfl) H) (fun x39 H => ?_)
                refine ls_y (d := some 40) (by kernel_rfl) (by kernel_rfl) HA_36 (y_ld Try.isAgg3 (by kernel_rfl) H) (fun x40 H => ?_)
                refine ls_p (d := some 41) (by kernel_rfl) (by kernel_rfl) (p_add (by kernel_rfl) (by kernel_rfl) H) (fun x41 H => ?_)
                refine ls_assign (x := x41) (by kernel_rfl) (by kernel_rfl) ?_
                refine ls_nil ?_
                refine then_normal ?_
                refine fr_eq (b := ⟨([x0, x1, x2, undef, x4, x14, x16, x41, x1, x9, x10, undef, x1, x13, x14, x1, x16, x14, x18, x18, (D 0), (D 1), x22, x16, x24, x25, x25, (D_8 0), (D_8 1), (D_8 2), (D_8 3), x31, x31, (D_9 0), (D_9 1), (D_9 2), (D_9 3), x37, x16, x39, x40, x41, undef, undef, undef, undef, undef, undef, undef, undef] ++ [undef, undef, undef, undef, undef, undef, undef, undef, undef, undef, undef, undef, undef, undef, undef, undef, undef, undef, undef, undef, undef, undef, undef, undef, undef, undef, undef, undef, undef, undef, undef, undef, undef, undef, undef, undef, undef, undef, undef, undef, undef, undef, undef, undef, undef, undef, undef, undef, undef, undef] ++ [undef, undef, undef, undef, undef, undef, undef, undef, undef, undef, undef, undef, undef, undef, undef, undef, undef, undef, undef, undef, undef, undef, undef, undef, undef, undef, undef, undef, undef, undef, undef, undef, undef, undef, undef, undef, undef, undef, undef, undef, undef, undef, undef, undef, undef, undef, undef, undef, undef, undef] ++ [undef, undef, undef, undef, undef, undef, undef, undef, undef, undef, undef, undef, undef, undef, undef, undef, undef, undef, undef, undef, undef, undef, undef, undef, undef, undef, undef, undef, undef, undef, undef, undef, undef, undef, undef, undef, undef, undef, undef]).toArray, []⟩) (by kernel_rfl) ?_
                refine lwp_list ?_
                refine ls_move (x := x16) (by kernel_rfl) (by kernel_rfl) ?_
                refine ls_p (d := some 43) (by kernel_rfl) (by kernel_rfl) (p_sl Try.underlying24 Try.sizeOf3 (by kernel_rfl) (by kernel_rfl) (by kernel_rfl) H) (fun x43 H => ?_)
                refine ls_assign (x := x43) (by kernel_rfl) (by kernel_rfl) ?_
                refine ls_nil ?_
                exact ⟨(fun i => ([x16, x24, x25, x25, (D_8 0), (D_8 1), (D_8 2), (D_8 3), x31, x31, (D_9 0), (D_9 1), (D_9 2), (D_9 3), x37, x16, x39, x40, x41, x16, x43, undef, undef, undef, undef, undef, undef, undef, undef, undef, undef, undef, undef, undef, undef, undef, undef, undef, undef, undef, undef, undef, undef, undef, undef, undef, undef, undef, undef, undef] ++ [undef, undef, undef, undef, undef, undef, undef, undef, undef, undef, undef, undef, undef, undef, undef]).getD i undef), x43, x41, h_27, by kernel_rfl, HA_36, H⟩
              · refine wp_seq ?_
                refine lwp_list ?_
                refine ls_move (x := x16) (by kernel_rfl) (by kernel_rfl) ?_
                refine ls_p (d := some 45) (by kernel_rfl) (by kernel_rfl) (p_len Try.underlying24 (by kernel_rfl) H) (fun x45 H => ?_)
                refine ls_p (d := some 46) (by kernel_rfl) (by kernel_rfl) (p_sGe (by kernel_rfl) (by kernel_rfl) H) (fun x46 H => ?_)
                refine ls_move (x := x46) (by kernel_rfl) (by kernel_rfl) ?_
                refine ls_and [(), (), (), (), ()] (fun K a w => ∃ (D_10 : Nat → Value) (x52 : Value), a = ⟨([x0, x1, x2, undef, x4, x14, x16, (.int .i64 (-1)), x1, x9, x10, undef, x1, x13, x14, x1, x16, x14, x18, x18, (D 0), (D 1), x22, x16, x24, x25, x25, (D_8 0), (D_8 1), (D_8 2), (D_8 3), x31, x31, (D_9 0), (D_9 1), (D_9 2), (D_9 3), x37, undef, undef, undef, undef, undef, undef, x16, x45, x46, x46, (D_10 0), (D_10 1)] ++ [(D_10 2), (D_10 3), x52, undef, undef, undef, undef, undef, undef, undef, undef, undef, undef, undef, undef, undef, undef, undef, undef, undef, undef, undef, undef, undef, undef, undef, undef, undef, undef, undef, undef, undef, undef, undef, undef, undef, undef, undef, undef, undef, undef, undef, undef, undef, undef, undef, undef, undef, undef, undef] ++ [undef, undef, undef, undef, undef, undef, undef, undef, undef, undef, undef, undef, undef, undef, undef, undef, undef, undef, undef, undef, undef, undef, undef, undef, undef, undef, undef, undef, undef, undef, undef, undef, undef, undef, undef, undef, undef, undef, undef, undef, undef, undef, undef, undef, undef, undef, undef, undef, undef, undef] ++ [undef, undef, undef, undef, undef, undef, undef, undef, undef, undef, undef, undef, undef, undef, undef, undef, undef, undef, undef, undef, undef, undef, undef, undef, undef, undef, undef, undef, undef, undef, undef, undef, undef, undef, undef, undef, undef, undef, undef]).toArray, []⟩ ∧ At w0 w h_27 ∧ K x52) H (fun hb_8 H => ?_) (fun hb_8 H => ?_) ?_
                · refine ls_move (x := x16) (by rw [hb_8]; kernel_rfl) (by kernel_rfl) ?_
                  refine ls_p (d := some 49) (by kernel_rfl) (by rw [hb_8]; kernel_rfl) (p_ixs Try.underlying24 Try.sizeOf3 (by kernel_rfl) (by kernel_rfl) H) (fun x49 H => ?_)
                  refine ls_fr (b := ⟨([x0, x1, x2, undef, x4, x14, x16, (.int .i64 (-1)), x1, x9, x10, undef, x1, x13, x14, x1, x16, x14, x18, x18, (D 0), (D 1), x22, x16, x24, x25, x25, (D_8 0), (D_8 1), (D_8 2), (D_8 3), x31, x31, (D_9 0), (D_9 1), (D_9 2), (D_9 3), x37, undef, undef, undef, undef, undef, undef, x16, x45, x46, x46, x16, x49] ++ [undef, undef, undef, undef, undef, undef, undef, undef, undef, undef, undef, undef, undef, undef, undef, undef, undef, undef, undef, undef, undef, undef, undef, undef, undef, undef, undef, undef, undef, undef, undef, undef, undef, undef, undef, undef, undef, undef, undef, undef, undef, undef, undef, undef, undef, undef, undef, undef, undef, undef] ++ [undef, undef, undef, undef, undef, undef, undef, undef, undef, undef, undef, undef, undef, undef, undef, undef, undef, undef, undef, undef, undef, undef, undef, undef, undef, undef, undef, undef, undef, undef, undef, undef, undef, undef, undef, undef, undef, undef, undef, undef, undef, undef, undef, undef, undef, undef, undef, undef, undef, undef] ++ [undef, undef, undef, undef, undef, undef, undef, undef, undef, undef, undef, undef, undef, undef, undef, undef, undef, undef, undef, undef, undef, undef, undef, undef, undef, undef, undef, undef, undef, undef, undef, undef, undef, undef, undef, undef, undef, undef, undef]).toArray, []⟩) (by kernel_rfl) ?_
                  refine ls_y (d := some 50) (by kernel_rfl) (by rw [hb_8]; kernel_rfl) HA_36 (y_ld Try.isAgg3 (by kernel_rfl) H) (fun x50 H => ?_)
                  refine ls_p (d := some 51) (by kernel_rfl) (by rw [hb_8]; kernel_rfl) (p_sEq (by kernel_rfl) (by kernel_rfl) H) (fun x51 H => ?_)
                  refine ls_pick_t (x := x51) (by kernel_rfl) (by rw [hb_8]; kernel_rfl) (by kernel_rfl) ?_
                  refine ls_nil ?_
                  refine then_normal ?_
                  exact ⟨(fun i => ([x16, x49, x50, x51]).getD i undef), x51, by kernel_rfl, HA_36, H⟩
                · refine ls_skip (d := some 48) (by kernel_rfl) (by rw [hb_8]; kernel_rfl) ?_
                  refine ls_skip (d := some 49) (by kernel_rfl) (by rw [hb_8]; kernel_rfl) ?_
                  refine ls_fr (b := ⟨([x0, x1, x2, undef, x4, x14, x16, (.int .i64 (-1)), x1, x9, x10, undef, x1, x13, x14, x1, x16, x14, x18, x18, (D 0), (D 1), x22, x16, x24, x25, x25, (D_8 0), (D_8 1), (D_8 2), (D_8 3), x31, x31, (D_9 0), (D_9 1), (D_9 2), (D_9 3), x37, undef, undef, undef, undef, undef, undef, x16, x45, x46, x46, undef, undef] ++ [undef, undef, undef, undef, undef, undef, undef, undef, undef, undef, undef, undef, undef, undef, undef, undef, undef, undef, undef, undef, undef, undef, undef, undef, undef, undef, undef, undef, undef, undef, undef, undef, undef, undef, undef, undef, undef, undef, undef, undef, undef, undef, undef, undef, undef, undef, undef, undef, undef, undef] ++ [undef, undef, undef, undef, undef, undef, undef, undef, undef, undef, undef, undef, undef, undef, undef, undef, undef, undef, undef, undef, undef, undef, undef, undef, undef, undef, undef, undef, undef, undef, undef, undef, undef, undef, undef, undef, undef, undef, undef, undef, undef, undef, undef, undef, undef, undef, undef, undef, undef, undef] ++ [undef, undef, undef, undef, undef, undef, undef, undef, undef, undef, undef, undef, undef, undef, undef, undef, undef, undef, undef, undef, undef, undef, undef, undef, undef, undef, undef, undef, undef, undef, undef, undef, undef, undef, undef, undef, undef, undef, undef]).toArray, []⟩) (by kernel_rfl) ?_
                  refine ls_skip (d := some 50) (by kernel_rfl) (by rw [hb_8]; kernel_rfl) ?_
                  refine ls_skip (d := some 51) (by kernel_rfl) (by rw [hb_8]; kernel_rfl) ?_
                  refine ls_pick_f (y := (.bool false)) (by kernel_rfl) (by rw [hb_8]; kernel_rfl) (by kernel_rfl) ?_
                  refine ls_nil ?_
                  refine then_normal ?_
                  exact ⟨(fun i => ([undef, undef, undef, undef]).getD i undef), (.bool false), by kernel_rfl, HA_36, H⟩
                · rintro _ w_37 ⟨D_10, x52, rfl, HA_37, H⟩
                  refine ls_move (x := x52) (by kernel_rfl) (by kernel_rfl) ?_
                  refine ls_andh [(), (), (), (), ()] (fun K a w => ∃ (D_11 : Nat → Value) (x58 : Value) (h_28 : Heap), a = ⟨([x0, x1, x2, undef, x4, x14, x16, (.int .i64 (-1)), x1, x9, x10, undef, x1, x13, x14, x1, x16, x14, x18, x18, (D 0), (D 1), x22, x16, x24, x25, x25, (D_8 0), (D_8 1), (D_8 2), (D_8 3), x31, x31, (D_9 0), (D_9 1), (D_9 2), (D_9 3), x37, undef, undef, undef, undef, undef, undef, x16, x45, x46, x46, (D_10 0), (D_10 1)] ++ [(D_10 2), (D_10 3), x52, x52, (D_11 0), (D_11 1), (D_11 2), (D_11 3), x58, undef, undef, undef, undef, undef, undef, undef, undef, undef, undef, undef, undef, undef, undef, undef, undef, undef, undef, undef, undef, undef, undef, undef, undef, undef, undef, undef, undef, undef, undef, undef, undef, undef, undef, undef, undef, undef, undef, undef, undef, undef] ++ [undef, undef, undef, undef, undef, undef, undef, undef, undef, undef, undef, undef, undef, undef, undef, undef, undef, undef, undef, undef, undef, undef, undef, undef, undef, undef, undef, undef, undef, undef, undef, undef, undef, undef, undef, undef, undef, undef, undef, undef, undef, undef, undef, undef, undef, undef, undef, undef, undef, undef] ++ [undef, undef, undef, undef, undef, undef, undef, undef, undef, undef, undef, undef, undef, undef, undef, undef, undef, undef, undef, undef, undef, undef, undef, undef, undef, undef, undef, undef, undef, undef, undef, undef, undef, undef, undef, undef, undef, undef, undef]).toArray, []⟩ ∧ At w0 w h_28 ∧ K x58 h_28) H (fun hb_7 H => ?_) (fun hb_7 H => ?_) ?_
                  · refine ls_move (x := x16) (by rw [hb_7]; kernel_rfl) (by kernel_rfl) ?_
                    refine ls_p (d := some 55) (by kernel_rfl) (by rw [hb_7]; kernel_rfl) (p_ixs Try.underlying24 Try.sizeOf3 (by kernel_rfl) (by kernel_rfl) H) (fun x55 H => ?_)
                    refine ls_y (d := some 56) (by kernel_rfl) (by rw [hb_7]; kernel_rfl) HA_37 (y_ld Try.isAgg3 (by kernel_rfl) H) (fun x56 H => ?_)
                    refine ls_d (d := some 57) (by kernel_rfl) (by rw [hb_7]; kernel_rfl) HA_37 (d_call (by kernel_rfl) (by kernel_rfl) H) (fun x57 h_34 w_45 H HA_45 => ?_)
                    refine ls_pick_t (x := x57) (by kernel_rfl) (by rw [hb_7]; kernel_rfl) (by kernel_rfl) ?_
                    refine ls_nil ?_
                    refine then_normal ?_
                    exact ⟨(fun i => ([x16, x55, x56, x57]).getD i undef), x57, h_34, by kernel_rfl, HA_45, H⟩
                  · refine ls_skip (d := some 54) (by kernel_rfl) (by rw [hb_7]; kernel_rfl) ?_
                    refine ls_skip (d := some 55) (by kernel_rfl) (by rw [hb_7]; kernel_rfl) ?_
                    refine ls_skip (d := some 56) (by kernel_rfl) (by rw [hb_7]; kernel_rfl) ?_
                    refine ls_skip (d := some 57) (by kernel_rfl) (by rw [hb_7]; kernel_rfl) ?_
                    refine ls_pick_f (y := (.bool false)) (by kernel_rfl) (by rw [hb_7]; kernel_rfl) (by kernel_rfl) ?_
                    refine ls_nil ?_
                    refine then_normal ?_
                    exact ⟨(fun i => ([undef, undef, undef, undef]).getD i undef), (.bool false), h_27, by kernel_rfl, HA_37, H⟩
                  · rintro _ w_38 ⟨D_11, x58, h_28, rfl, HA_38, H⟩
                    refine ls_move (x := x58) (by kernel_rfl) (by kernel_rfl) ?_
                    refine ls_andh [(), (), (), (), ()] (fun K a w => ∃ (D_12 : Nat → Value) (x64 : Value) (h_29 : Heap), a = ⟨([x0, x1, x2, undef, x4, x14, x16, (.int .i64 (-1)), x1, x9, x10, undef, x1, x13, x14, x1, x16, x14, x18, x18, (D 0), (D 1), x22, x16, x24, x25, x25, (D_8 0), (D_8 1), (D_8 2), (D_8 3), x31, x31, (D_9 0), (D_9 1), (D_9 2), (D_9 3), x37, undef, undef, undef, undef, undef, undef, x16, x45, x46, x46, (D_10 0), (D_10 1)] ++ [(D_10 2), (D_10 3), x52, x52, (D_11 0), (D_11 1), (D_11 2), (D_11 3), x58, x58, (D_12 0), (D_12 1), (D_12 2), (D_12 3), x64, undef, undef, undef, undef, undef, undef, undef, undef, undef, undef, undef, undef, undef, undef, undef, undef, undef, undef, undef, undef, undef, undef, undef, undef, undef, undef, undef, undef, undef, undef, undef, undef, undef, undef, undef] ++ [undef, undef, undef, undef, undef, undef, undef, undef, undef, undef, undef, undef, undef, undef, undef, undef, undef, undef, undef, undef, undef, undef, undef, undef, undef, undef, undef, undef, undef, undef, undef, undef, undef, undef, undef, undef, undef, undef, undef, undef, undef, undef, undef, undef, undef, undef, undef, undef, undef, undef] ++ [undef, undef, undef, undef, undef, undef, undef, undef, undef, undef, undef, undef, undef, undef, undef, undef, undef, undef, undef, undef, undef, undef, undef, undef, undef, undef, undef, undef, undef, undef, undef, undef, undef, undef, undef, undef, undef, undef, undef]).toArray, []⟩ ∧ At w0 w h_29 ∧ K x64 h_29) H (fun hb_6 H => ?_) (fun hb_6 H => ?_) ?_
                    · refine ls_move (x := x16) (by rw [hb_6]; kernel_rfl) (by kernel_rfl) ?_
                      refine ls_p (d := some 61) (by kernel_rfl) (by rw [hb_6]; kernel_rfl) (p_ixs Try.underlying24 Try.sizeOf3 (by kernel_rfl) (by kernel_rfl) H) (fun x61 H => ?_)
                      refine ls_y (d := some 62) (by kernel_rfl) (by rw [hb_6]; kernel_rfl) HA_38 (y_ld Try.isAgg3 (by kernel_rfl) H) (fun x62 H => ?_)
                      refine ls_d (d := some 63) (by kernel_rfl) (by rw [hb_6]; kernel_rfl) HA_38 (d_call (by kernel_rfl) (by kernel_rfl) H) (fun x63 h_33 w_44 H HA_44 => ?_)
                      refine ls_pick_t (x := x63) (by kernel_rfl) (by rw [hb_6]; kernel_rfl) (by kernel_rfl) ?_
                      refine ls_nil ?_
                      refine then_normal ?_
                      exact ⟨(fun i => ([x16, x61, x62, x63]).getD i undef), x63, h_33, by kernel_rfl, HA_44, H⟩
                    · refine ls_skip (d := some 60) (by kernel_rfl) (by rw [hb_6]; kernel_rfl) ?_
                      refine ls_skip (d := some 61) (by kernel_rfl) (by rw [hb_6]; kernel_rfl) ?_
                      refine ls_skip (d := some 62) (by kernel_rfl) (by rw [hb_6]; kernel_rfl) ?_
                      refine ls_skip (d := some 63) (by kernel_rfl) (by rw [hb_6]; kernel_rfl) ?_
                      refine ls_pick_f (y := (.bool false)) (by kernel_rfl) (by rw [hb_6]; kernel_rfl) (by kernel_rfl) ?_
                      refine ls_nil ?_
                      refine then_normal ?_
                      exact ⟨(fun i => ([undef, undef, undef, undef]).getD i undef), (.bool false), h_28, by kernel_rfl, HA_38, H⟩
                    · rintro _ w_39 ⟨D_12, x64, h_29, rfl, HA_39, H⟩
                      refine ls_move (x := x64) (by kernel_rfl) (by kernel_rfl) ?_
                      refine ls_andh [(), (), (), (), ()] (fun K a w => ∃ (D_13 : Nat → Value) (x70 : Value) (h_30 : Heap), a = ⟨([x0, x1, x2, undef, x4, x14, x16, (.int .i64 (-1)), x1, x9, x10, undef, x1, x13, x14, x1, x16, x14, x18, x18, (D 0), (D 1), x22, x16, x24, x25, x25, (D_8 0), (D_8 1), (D_8 2), (D_8 3), x31, x31, (D_9 0), (D_9 1), (D_9 2), (D_9 3), x37, undef, undef, undef, undef, undef, undef, x16, x45, x46, x46, (D_10 0), (D_10 1)] ++ [(D_10 2), (D_10 3), x52, x52, (D_11 0), (D_11 1), (D_11 2), (D_11 3), x58, x58, (D_12 0), (D_12 1), (D_12 2), (D_12 3), x64, x64, (D_13 0), (D_13 1), (D_13 2), (D_13 3), x70, undef, undef, undef, undef, undef, undef, undef, undef, undef, undef, undef, undef, undef, undef, undef, undef, undef, undef, undef, undef, undef, undef, undef, undef, undef, undef, undef, undef, undef] ++ [undef, undef, undef, undef, undef, undef, undef, undef, undef, undef, undef, undef, undef, undef, undef, undef, undef, undef, undef, undef, undef, undef, undef, undef, undef, undef, undef, undef, undef, undef, undef, undef, undef, undef, undef, undef, undef, undef, undef, undef, undef, undef, undef, undef, undef, undef, undef, undef, undef, undef] ++ [undef, undef, undef, undef, undef, undef, undef, undef, undef, undef, undef, undef, undef, undef, undef, undef, undef, undef, undef, undef, undef, undef, undef, undef, undef, undef, undef, undef, undef, undef, undef, undef, undef, undef, undef, undef, undef, undef, undef]).toArray, []⟩ ∧ At w0 w h_30 ∧ K x70 h_30) H (fun hb_5 H => ?_) (fun hb_5 H => ?_) ?_
                      · refine ls_move (x := x16) (by rw [hb_5]; kernel_rfl) (by kernel_rfl) ?_
                        refine ls_p (d := some 67) (by kernel_rfl) (by rw [hb_5]; kernel_rfl) (p_ixs Try.underlying24 Try.sizeOf3 (by kernel_rfl) (by kernel_rfl) H) (fun x67 H => ?_)
                        refine ls_y (d := some 68) (by kernel_rfl) (by rw [hb_5]; kernel_rfl) HA_39 (y_ld Try.isAgg3 (by kernel_rfl) H) (fun x68 H => ?_)
                        refine ls_d (d := some 69) (by kernel_rfl) (by rw [hb_5]; kernel_rfl) HA_39 (d_call (by kernel_rfl) (by kernel_rfl) H) (fun x69 h_32 w_43 H HA_43 => ?_)
                        refine ls_pick_t (x := x69) (by kernel_rfl) (by rw [hb_5]; kernel_rfl) (by kernel_rfl) ?_
                        refine ls_nil ?_
                        refine then_normal ?_
                        exact ⟨(fun i => ([x16, x67, x68, x69]).getD i undef), x69, h_32, by kernel_rfl, HA_43, H⟩
                      · refine ls_skip (d := some 66) (by kernel_rfl) (by rw [hb_5]; kernel_rfl) ?_
                        refine ls_skip (d := some 67) (by kernel_rfl) (by rw [hb_5]; kernel_rfl) ?_
                        refine ls_skip (d := some 68) (by kernel_rfl) (by rw [hb_5]; kernel_rfl) ?_
                        refine ls_skip (d := some 69) (by kernel_rfl) (by rw [hb_5]; kernel_rfl) ?_
                        refine ls_pick_f (y := (.bool false)) (by kernel_rfl) (by rw [hb_5]; kernel_rfl) (by kernel_rfl) ?_
                        refine ls_nil ?_
                        refine then_normal ?_
                        exact ⟨(fun i => ([undef, undef, undef, undef]).getD i undef), (.bool false), h_29, by kernel_rfl, HA_39, H⟩
                      · rintro _ w_40 ⟨D_13, x70, h_30, rfl, HA_40, H⟩
                        refine ls_nil ?_
                        refine then_normal ?_
                        refine fr_eq (b := ⟨([x0, x1, x2, undef, x4, x14, x16, (.int .i64 (-1)), x1, x9, x10, undef, x1, x13, x14, x1, x16, x14, x18, x18, (D 0), (D 1), x22, x16, x24, x25, x25, (D_8 0), (D_8 1), (D_8 2), (D_8 3), x31, x31, (D_9 0), (D_9 1), (D_9 2), (D_9 3), x37, undef, undef, undef, undef, undef, undef, x16, x45, x46, x46, (D_10 0), (D_10 1)] ++ [(D_10 2), (D_10 3), x52, x52, (D_11 0), (D_11 1), (D_11 2), (D_11 3), x58, x58, (D_12 0), (D_12 1), (D_12 2), (D_12 3), x64, x64, (D_13 0), (D_13 1), (D_13 2), (D_13 3), x70, undef, undef, undef, undef, undef, undef, undef, undef, undef, undef, undef, undef, undef, undef, undef, undef, undef, undef, undef, undef, undef, undef, undef, undef, undef, undef, undef, undef, undef] ++ [undef, undef, undef, undef, undef, undef, undef, undef, undef, undef, undef, undef, undef, undef, undef, undef, undef, undef, undef, undef, undef, undef, undef, undef, undef, undef, undef, undef, undef, undef, undef, undef, undef, undef, undef, undef, undef, undef, undef, undef, undef, undef, undef, undef, undef, undef, undef, undef, undef, undef] ++ [undef, undef, undef, undef, undef, undef, undef, undef, undef, undef, undef, undef, undef, undef, undef, undef, undef, undef, undef, undef, undef, undef, undef, undef, undef, undef, undef, undef, undef, undef, undef, undef, undef, undef, undef, undef, undef, undef, undef]).toArray, []⟩) (by kernel_rfl) ?_
                        refine wp_if rfl H (fun H => ?_) (fun H => ?_)
                        · refine wp_seq ?_
                          refine lwp_qt (by kernel_rfl) (by kernel_rfl) HA_40 ?_
                          refine lq_move (x := x16) (by kernel_rfl) (by kernel_rfl) ?_
                          refine lq_p (d := some 72) (by kernel_rfl) (by kernel_rfl) (p_ixs Try.underlying24 Try.sizeOf3 (by kernel_rfl) (by kernel_rfl) H) (fun x72 H => ?_)
                          refine lq_y (d := some 73) (by kernel_rfl) (by kernel_rfl) HA_40 (y_ld Try.isAgg3 (by kernel_rfl) H) (fun x73 H => ?_)
                          refine lq_p (d := some 74) (by kernel_rfl) (by kernel_rfl) (p_mul (by kernel_rfl) (by kernel_rfl) H) (fun x74 H => ?_)
                          refine lq_p (d := some 75) (by kernel_rfl) (by kernel_rfl) (p_add (by kernel_rfl) (by kernel_rfl) H) (fun x75 H => ?_)
                          refine lq_move (x := x16) (by kernel_rfl) (by kernel_rfl) ?_
                          refine lq_fr (b := ⟨([x0, x1, x2, undef, x4, x14, x16, (.int .i64 (-1)), x1, x9, x10, undef, x1, x13, x14, x1, x16, x14, x18, x18, (D 0), (D 1), x22, x16, x24, x25, x25, (D_8 0), (D_8 1), (D_8 2), (D_8 3), x31, x31, (D_9 0), (D_9 1), (D_9 2), (D_9 3), x37, undef, undef, undef, undef, undef, undef, x16, x45, x46, x46, (D_10 0), (D_10 1)] ++ [(D_10 2), (D_10 3), x52, x52, (D_11 0), (D_11 1), (D_11 2), (D_11 3), x58, x58, (D_12 0), (D_12 1), (D_12 2), (D_12 3), x64, x64, (D_13 0), (D_13 1), (D_13 2), (D_13 3), x70, x16, x72, x73, x74, x75, x16, undef, undef, undef, undef, undef, undef, undef, undef, undef, undef, undef, undef, undef, undef, undef, undef, undef, undef, undef, undef, undef, undef, undef] ++ [undef, undef, undef, undef, undef, undef, undef, undef, undef, undef, undef, undef, undef, undef, undef, undef, undef, undef, undef, undef, undef, undef, undef, undef, undef, undef, undef, undef, undef, undef, undef, undef, undef, undef, undef, undef, undef, undef, undef, undef, undef, undef, undef, undef, undef, undef, undef, undef, undef, undef] ++ [undef, undef, undef, undef, undef, undef, undef, undef, undef, undef, undef, undef, undef, undef, undef, undef, undef, undef, undef, undef, undef, undef, undef, undef, undef, undef, undef, undef, undef, undef, undef, undef, undef, undef, undef, undef, undef, undef, undef]).toArray, []⟩) (by kernel_rfl) ?_
                          refine lq_p (d := some 77) (by kernel_rfl) (by kernel_rfl) (p_ixs Try.underlying24 Try.sizeOf3 (by kernel_rfl) (by kernel_rfl) H) (fun x77 H => ?_)
                          refine lq_y (d := some 78) (by kernel_rfl) (by kernel_rfl) HA_40 (y_ld Try.isAgg3 (by kernel_rfl) H) (fun x78 H => ?_)
                          refine lq_p (d := some 79) (by kernel_rfl) (by kernel_rfl) (p_mul (by kernel_rfl) (by kernel_rfl) H) (fun x79 H => ?_)
                          refine lq_p (d := some 80) (by kernel_rfl) (by kernel_rfl) (p_add (by kernel_rfl) (by kernel_rfl) H) (fun x80 H => ?_)
                          refine lq_move (x := x16) (by kernel_rfl) (by kernel_rfl) ?_
                          refine lq_p (d := some 82) (by kernel_rfl) (by kernel_rfl) (p_ixs Try.underlying24 Try.sizeOf3 (by kernel_rfl) (by kernel_rfl) H) (fun x82 H => ?_)
                          refine lq_fr (b := ⟨([x0, x1, x2, undef, x4, x14, x16, (.int .i64 (-1)), x1, x9, x10, undef, x1, x13, x14, x1, x16, x14, x18, x18, (D 0), (D 1), x22, x16, x24, x25, x25, (D_8 0), (D_8 1), (D_8 2), (D_8 3), x31, x31, (D_9 0), (D_9 1), (D_9 2), (D_9 3), x37, undef, undef, undef, undef, undef, undef, x16, x45, x46, x46, (D_10 0), (D_10 1)] ++ [(D_10 2), (D_10 3), x52, x52, (D_11 0), (D_11 1), (D_11 2), (D_11 3), x58, x58, (D_12 0), (D_12 1), (D_12 2), (D_12 3), x64, x64, (D_13 0), (D_13 1), (D_13 2), (D_13 3), x70, x16, x72, x73, x74, x75, x16, x77, x78, x79, x80, x16, x82, undef, undef, undef, undef, undef, undef, undef, undef, undef, undef, undef, undef, undef, undef, undef, undef, undef] ++ [undef, undef, undef, undef, undef, undef, undef, undef, undef, undef, undef, undef, undef, undef, undef, undef, undef, undef, undef, undef, undef, undef, undef, undef, undef, undef, undef, undef, undef, undef, undef, undef, undef, undef, undef, undef, undef, undef, undef, undef, undef, undef, undef, undef, undef, undef, undef, undef, undef, undef] ++ [undef, undef, undef, undef, undef, undef, undef, undef, undef, undef, undef, undef, undef, undef, undef, undef, undef, undef, undef, undef, undef, undef, undef, undef, undef, undef, undef, undef, undef, undef, undef, undef, undef, undef, undef, undef, undef, undef, undef]).toArray, []⟩) (by kernel_rfl) ?_
                          refine lq_y (d := some 83) (by kernel_rfl) (by kernel_rfl) HA_40 (y_ld Try.isAgg3 (by kernel_rfl) H) (fun x83 H => ?_)
                          refine lq_p (d := some 84) (by kernel_rfl) (by kernel_rfl) (p_add (by kernel_rfl) (by kernel_rfl) H) (fun x84 H => ?_)
                          refine lq_assign (x := x84) (by kernel_rfl) (by kernel_rfl) ?_
                          refine lq_nil ?_
                          intro w_41 HA_41
                          refine then_normal ?_
                          refine fr_eq (b := ⟨([x0, x1, x2, undef, x4, x14, x16, x84, x1, x9, x10, undef, x1, x13, x14, x1, x16, x14, x18, x18, (D 0), (D 1), x22, x16, x24, x25, x25, (D_8 0), (D_8 1), (D_8 2), (D_8 3), x31, x31, (D_9 0), (D_9 1), (D_9 2), (D_9 3), x37, undef, undef, undef, undef, undef, undef, x16, x45, x46, x46, (D_10 0), (D_10 1)] ++ [(D_10 2), (D_10 3), x52, x52, (D_11 0), (D_11 1), (D_11 2), (D_11 3), x58, x58, (D_12 0), (D_12 1), (D_12 2), (D_12 3), x64, x64, (D_13 0), (D_13 1), (D_13 2), (D_13 3), x70, x16, x72, x73, x74, x75, x16, x77, x78, x79, x80, x16, x82, x83, x84, undef, undef, undef, undef, undef, undef, undef, undef, undef, undef, undef, undef, undef, undef, undef] ++ [undef, undef, undef, undef, undef, undef, undef, undef, undef, undef, undef, undef, undef, undef, undef, undef, undef, undef, undef, undef, undef, undef, undef, undef, undef, undef, undef, undef, undef, undef, undef, undef, undef, undef, undef, undef, undef, undef, undef, undef, undef, undef, undef, undef, undef, undef, undef, undef, undef, undef] ++ [undef, undef, undef, undef, undef, undef, undef, undef, undef, undef, undef, undef, undef, undef, undef, undef, undef, undef, undef, undef, undef, undef, undef, undef, undef, undef, undef, undef, undef, undef, undef, undef, undef, undef, undef, undef, undef, undef, undef]).toArray, []⟩) (by kernel_rfl) ?_
                          refine lwp_list ?_
                          refine ls_move (x := x16) (by kernel_rfl) (by kernel_rfl) ?_
                          refine ls_p (d := some 86) (by kernel_rfl) (by kernel_rfl) (p_sl Try.underlying24 Try.sizeOf3 (by kernel_rfl) (by kernel_rfl) (by kernel_rfl) H) (fun x86 H => ?_)
                          refine ls_assign (x := x86) (by kernel_rfl) (by kernel_rfl) ?_
                          refine ls_nil ?_
                          exact ⟨(fun i => ([x16, x24, x25, x25, (D_8 0), (D_8 1), (D_8 2), (D_8 3), x31, x31, (D_9 0), (D_9 1), (D_9 2), (D_9 3), x37, undef, undef, undef, undef, undef, undef, x16, x45, x46, x46, (D_10 0), (D_10 1), (D_10 2), (D_10 3), x52, x52, (D_11 0), (D_11 1), (D_11 2), (D_11 3), x58, x58, (D_12 0), (D_12 1), (D_12 2), (D_12 3), x64, x64, (D_13 0), (D_13 1), (D_13 2), (D_13 3), x70, x16, x72] ++ [x73, x74, x75, x16, x77, x78, x79, x80, x16, x82, x83, x84, x16, x86, undef]).getD i undef), x86, x84, h_30, by kernel_rfl, HA_41, H⟩
                        · refine wp_seq ?_
                          refine lwp_list ?_
                          refine ls_y (d := some 87) (by kernel_rfl) (by kernel_rfl) HA_40 (y_ldn Try.isAgg23 Try.sizeOf23 (by kernel_rfl) H) (fun x87 H => ?_)
                          refine ls_d (d := none) (by kernel_rfl) (by kernel_rfl) HA_40 (d_stn Try.sizeOf23 (by kernel_rfl) (by kernel_rfl) H) (fun _ h_31 w_42 H HA_42 => ?_)
                          refine ls_nil ?_
                          refine then_normal ?_
                          refine fr_eq (b := ⟨([x0, x1, x2, undef, x4, x14, x16, (.int .i64 (-1)), x1, x9, x10, undef, x1, x13, x14, x1, x16, x14, x18, x18, (D 0), (D 1), x22, x16, x24, x25, x25, (D_8 0), (D_8 1), (D_8 2), (D_8 3), x31, x31, (D_9 0), (D_9 1), (D_9 2), (D_9 3), x37, undef, undef, undef, undef, undef, undef, x16, x45, x46, x46, (D_10 0), (D_10 1)] ++ [(D_10 2), (D_10 3), x52, x52, (D_11 0), (D_11 1), (D_11 2), (D_11 3), x58, x58, (D_12 0), (D_12 1), (D_12 2), (D_12 3), x64, x64, (D_13 0), (D_13 1), (D_13 2), (D_13 3), x70, undef, undef, undef, undef, undef, undef, undef, undef, undef, undef, undef, undef, undef, undef, undef, undef, x87, undef, undef, undef, undef, undef, undef, undef, undef, undef, undef, undef, undef] ++ [undef, undef, undef, undef, undef, undef, undef, undef, undef, undef, undef, undef, undef, undef, undef, undef, undef, undef, undef, undef, undef, undef, undef, undef, undef, undef, undef, undef, undef, undef, undef, undef, undef, undef, undef, undef, undef, undef, undef, undef, undef, undef, undef, undef, undef, undef, undef, undef, undef, undef] ++ [undef, undef, undef, undef, undef, undef, undef, undef, undef, undef, undef, undef, undef, undef, undef, undef, undef, undef, undef, undef, undef, undef, undef, undef, undef, undef, undef, undef, undef, undef, undef, undef, undef, undef, undef, undef, undef, undef, undef]).toArray, []⟩) (by kernel_rfl) ?_
                          refine wp_ret ?_
                          refine then_ret ?_
                          refine then_ret ?_
                          obtain ⟨r4_3, hr4_3, H⟩ := ld_n Try.isAgg23 Try.sizeOf23 H
                          exact endR (vs := [r4_3]) (Try.results42) (by kernel_rfl) ⟨⟨_, (by kernel_rfl), hr4_3⟩, trivial⟩ HA_42 H _ (.inr rfl)
        · refine wp_skip ?_
          exact ⟨(fun i => ([undef, undef, undef, undef, undef, undef, undef, undef, undef, undef, undef, undef, undef, undef, undef, undef, undef, undef, undef, undef, undef, undef, undef, undef, undef, undef, undef, undef, undef, undef, undef, undef, undef, undef, undef, undef, undef, undef, undef, undef, undef, undef, undef, undef, undef, undef, undef, undef, undef, undef] ++ [undef, undef, undef, undef, undef, undef, undef, undef, undef, undef, undef, undef, undef, undef, undef]).getD i undef), x16, (.int .i64 (-1)), h_1, by kernel_rfl, HA_3, H⟩
      · rintro _ w_4 ⟨D_1, x6, x7, h_3, rfl, HA_4, H⟩
        unfold betonyref05_Apply_j1 at H
        refine then_normal ?_
        refine fr_eq (b := ⟨([x0, x1, x2, undef, x4, x14, x6, x7, x1, x9, x10, undef, x1, x13, x14, x1, x16, x14, x18, x18, (D 0), (D 1), x22, (D_1 0), (D_1 1), (D_1 2), (D_1 3), (D_1 4), (D_1 5), (D_1 6), (D_1 7), (D_1 8), (D_1 9), (D_1 10), (D_1 11), (D_1 12), (D_1 13), (D_1 14), (D_1 15), (D_1 16), (D_1 17), (D_1 18), (D_1 19), (D_1 20), (D_1 21), (D_1 22), (D_1 23), (D_1 24), (D_1 25), (D_1 26)] ++ [(D_1 27), (D_1 28), (D_1 29), (D_1 30), (D_1 31), (D_1 32), (D_1 33), (D_1 34), (D_1 35), (D_1 36), (D_1 37), (D_1 38), (D_1 39), (D_1 40), (D_1 41), (D_1 42), (D_1 43), (D_1 44), (D_1 45), (D_1 46), (D_1 47), (D_1 48), (D_1 49), (D_1 50), (D_1 51), (D_1 52), (D_1 53), (D_1 54), (D_1 55), (D_1 56), (D_1 57), (D_1 58), (D_1 59), (D_1 60), (D_1 61), (D_1 62), (D_1 63), (D_1 64), undef, undef, undef, undef, undef, undef, undef, undef, undef, undef, undef, undef] ++ [undef, undef, undef, undef, undef, undef, undef, undef, undef, undef, undef, undef, undef, undef, undef, undef, undef, undef, undef, undef, undef, undef, undef, undef, undef, undef, undef, undef, undef, undef, undef, undef, undef, undef, undef, undef, undef, undef, undef, undef, undef, undef, undef, undef, undef, undef, undef, undef, undef, undef] ++ [undef, undef, undef, undef, undef, undef, undef, undef, undef, undef, undef, undef, undef, undef, undef, undef, undef, undef, undef, undef, undef, undef, undef, undef, undef, undef, undef, undef, undef, undef, undef, undef, undef, undef, undef, undef, undef, undef, undef]).toArray, []⟩) (by kernel_rfl) ?_
        refine wp_seq ?_
        refine wp_join (fun a w => ∃ (D_2 : Nat → Value) (h_4 : Heap), a = ⟨([x0, x1, x2, undef, x4, x14, x6, x7, x1, x9, x10, undef, x1, x13, x14, x1, x16, x14, x18, x18, (D 0), (D 1), x22, (D_1 0), (D_1 1), (D_1 2), (D_1 3), (D_1 4), (D_1 5), (D_1 6), (D_1 7), (D_1 8), (D_1 9), (D_1 10), (D_1 11), (D_1 12), (D_1 13), (D_1 14), (D_1 15), (D_1 16), (D_1 17), (D_1 18), (D_1 19), (D_1 20), (D_1 21), (D_1 22), (D_1 23), (D_1 24), (D_1 25), (D_1 26)] ++ [(D_1 27), (D_1 28), (D_1 29), (D_1 30), (D_1 31), (D_1 32), (D_1 33), (D_1 34), (D_1 35), (D_1 36), (D_1 37), (D_1 38), (D_1 39), (D_1 40), (D_1 41), (D_1 42), (D_1 43), (D_1 44), (D_1 45), (D_1 46), (D_1 47), (D_1 48), (D_1 49), (D_1 50), (D_1 51), (D_1 52), (D_1 53), (D_1 54), (D_1 55), (D_1 56), (D_1 57), (D_1 58), (D_1 59), (D_1 60), (D_1 61), (D_1 62), (D_1 63), (D_1 64), (D_2 0), (D_2 1), (D_2 2), (D_2 3), (D_2 4), (D_2 5), (D_2 6), (D_2 7), (D_2 8), (D_2 9), (D_2 10), (D_2 11)] ++ [(D_2 12), (D_2 13), (D_2 14), (D_2 15), (D_2 16), (D_2 17), (D_2 18), (D_2 19), (D_2 20), (D_2 21), (D_2 22), (D_2 23), (D_2 24), (D_2 25), (D_2 26), (D_2 27), (D_2 28), (D_2 29), (D_2 30), (D_2 31), (D_2 32), (D_2 33), (D_2 34), (D_2 35), (D_2 36), (D_2 37), (D_2 38), (D_2 39), (D_2 40), (D_2 41), (D_2 42), (D_2 43), (D_2 44), (D_2 45), (D_2 46), (D_2 47), (D_2 48), (D_2 49), (D_2 50), (D_2 51), (D_2 52), (D_2 53), (D_2 54), (D_2 55), (D_2 56), (D_2 57), (D_2 58), (D_2 59), (D_2 60), (D_2 61)] ++ [(D_2 62), (D_2 63), (D_2 64), (D_2 65), (D_2 66), (D_2 67), (D_2 68), (D_2 69), (D_2 70), (D_2 71), (D_2 72), (D_2 73), (D_2 74), (D_2 75), (D_2 76), (D_2 77), (D_2 78), (D_2 79), (D_2 80), (D_2 81), (D_2 82), (D_2 83), (D_2 84), (D_2 85), (D_2 86), (D_2 87), (D_2 88), (D_2 89), (D_2 90), (D_2 91), (D_2 92), (D_2 93), undef, undef, undef, undef, undef, undef, undef]).toArray, []⟩ ∧ At w0 w h_4 ∧ betonyref05_Apply_j2 R x2 x4 x6 h_4) ?_ ?_
        · refine wp_block ?_
          refine wp_seq ?_
          refine lwp_list ?_
          refine ls_move (x := x14) (by kernel_rfl) (by kernel_rfl) ?_
          refine ls_p (d := some 90) (by kernel_rfl) (by kernel_rfl) (p_sEq (by kernel_rfl) (by kernel_rfl) H) (fun x90 H => ?_)
          refine ls_assign (x := x90) (by kernel_rfl) (by kernel_rfl) ?_
          refine ls_nil ?_
          refine then_normal ?_
          refine fr_eq (b := ⟨([x0, x1, x2, undef, x4, x14, x6, x7, x1, x9, x10, undef, x1, x13, x14, x1, x16, x14, x18, x18, (D 0), (D 1), x22, (D_1 0), (D_1 1), (D_1 2), (D_1 3), (D_1 4), (D_1 5), (D_1 6), (D_1 7), (D_1 8), (D_1 9), (D_1 10), (D_1 11), (D_1 12), (D_1 13), (D_1 14), (D_1 15), (D_1 16), (D_1 17), (D_1 18), (D_1 19), (D_1 20), (D_1 21), (D_1 22), (D_1 23), (D_1 24), (D_1 25), (D_1 26)] ++ [(D_1 27), (D_1 28), (D_1 29), (D_1 30), (D_1 31), (D_1 32), (D_1 33), (D_1 34), (D_1 35), (D_1 36), (D_1 37), (D_1 38), (D_1 39), (D_1 40), (D_1 41), (D_1 42), (D_1 43), (D_1 44), (D_1 45), (D_1 46), (D_1 47), (D_1 48), (D_1 49), (D_1 50), (D_1 51), (D_1 52), (D_1 53), (D_1 54), (D_1 55), (D_1 56), (D_1 57), (D_1 58), (D_1 59), (D_1 60), (D_1 61), (D_1 62), (D_1 63), (D_1 64), x90, x14, x90, undef, undef, undef, undef, undef, undef, undef, undef, undef] ++ [undef, undef, undef, undef, undef, undef, undef, undef, undef, undef, undef, undef, undef, undef, undef, undef, undef, undef, undef, undef, undef, undef, undef, undef, undef, undef, undef, undef, undef, undef, undef, undef, undef, undef, undef, undef, undef, undef, undef, undef, undef, undef, undef, undef, undef, undef, undef, undef, undef, undef] ++ [undef, undef, undef, undef, undef, undef, undef, undef, undef, undef, undef, undef, undef, undef, undef, undef, undef, undef, undef, undef, undef, undef, undef, undef, undef, undef, undef, undef, undef, undef, undef, undef, undef, undef, undef, undef, undef, undef, undef]).toArray, []⟩) (by kernel_rfl) ?_
          refine wp_if rfl H (fun H => ?_) (fun H => ?_)
          · refine lwp_list ?_
            refine ls_move (x := x7) (by kernel_rfl) (by kernel_rfl) ?_
            refine ls_p (d := some 92) (by kernel_rfl) (by kernel_rfl) (p_off Try.underlying23 rfl (fun w => ⟨_, Try.sizeOf3 w⟩) rfl (by kernel_rfl) H) (fun x92 H => ?_)
            refine ls_d (d := none) (by kernel_rfl) (by kernel_rfl) HA_4 (d_st Try.sizeOf3 (by kernel_rfl) (by kernel_rfl) H) (fun _ h_8 w_9 H HA_9 => ?_)
            refine ls_nil ?_
            refine block_normal ?_
            exact ⟨(fun i => ([x90, x14, x90, x7, x92, undef, undef, undef, undef, undef, undef, undef, undef, undef, undef, undef, undef, undef, undef, undef, undef, undef, undef, undef, undef, undef, undef, undef, undef, undef, undef, undef, undef, undef, undef, undef, undef, undef, undef, undef, undef, undef, undef, undef, undef, undef, undef, undef, undef, undef] ++ [undef, undef, undef, undef, undef, undef, undef, undef, undef, undef, undef, undef, undef, undef, undef, undef, undef, undef, undef, undef, undef, undef, undef, undef, undef, undef, undef, undef, undef, undef, undef, undef, undef, undef, undef, undef, undef, undef, undef, undef, undef, undef, undef, undef]).getD i undef), h_8, by kernel_rfl, HA_9, H⟩
          · refine wp_seq ?_
            refine lwp_list ?_
            refine ls_move (x := x14) (by kernel_rfl) (by kernel_rfl) ?_
            refine ls_p (d := some 95) (by kernel_rfl) (by kernel_rfl) (p_sEq (by kernel_rfl) (by kernel_rfl) H) (fun x95 H => ?_)
            refine ls_assign (x := x95) (by kernel_rfl) (by kernel_rfl) ?_
            refine ls_nil ?_
            refine then_normal ?_
            refine fr_eq (b := ⟨([x0, x1, x2, undef, x4, x14, x6, x7, x1, x9, x10, undef, x1, x13, x14, x1, x16, x14, x18, x18, (D 0), (D 1), x22, (D_1 0), (D_1 1), (D_1 2), (D_1 3), (D_1 4), (D_1 5), (D_1 6), (D_1 7), (D_1 8), (D_1 9), (D_1 10), (D_1 11), (D_1 12), (D_1 13), (D_1 14), (D_1 15), (D_1 16), (D_1 17), (D_1 18), (D_1 19), (D_1 20), (D_1 21), (D_1 22), (D_1 23), (D_1 24), (D_1 25), (D_1 26)] ++ [(D_1 27), (D_1 28), (D_1 29), (D_1 30), (D_1 31), (D_1 32), (D_1 33), (D_1 34), (D_1 35), (D_1 36), (D_1 37), (D_1 38), (D_1 39), (D_1 40), (D_1 41), (D_1 42), (D_1 43), (D_1 44), (D_1 45), (D_1 46), (D_1 47), (D_1 48), (D_1 49), (D_1 50), (D_1 51), (D_1 52), (D_1 53), (D_1 54), (D_1 55), (D_1 56), (D_1 57), (D_1 58), (D_1 59), (D_1 60), (D_1 61), (D_1 62), (D_1 63), (D_1 64), x90, x14, x90, undef, undef, x95, x14, x95, undef, undef, undef, undef] ++ [undef, undef, undef, undef, undef, undef, undef, undef, undef, undef, undef, undef, undef, undef, undef, undef, undef, undef, undef, undef, undef, undef, undef, undef, undef, undef, undef, undef, undef, undef, undef, undef, undef, undef, undef, undef, undef, undef, undef, undef, undef, undef, undef, undef, undef, undef, undef, undef, undef, undef] ++ [undef, undef, undef, undef, undef, undef, undef, undef, undef, undef, undef, undef, undef, undef, undef, undef, undef, undef, undef, undef, undef, undef, undef, undef, undef, undef, undef, undef, undef, undef, undef, undef, undef, undef, undef, undef, undef, undef, undef]).toArray, []⟩) (by kernel_rfl) ?_
            refine wp_if rfl H (fun H => ?_) (fun H => ?_)
            · refine lwp_list ?_
              refine ls_move (x := x7) (by kernel_rfl) (by kernel_rfl) ?_
              refine ls_p (d := some 97) (by kernel_rfl) (by kernel_rfl) (p_off Try.underlying23 rfl (fun w => ⟨_, Try.sizeOf3 w⟩) rfl (by kernel_rfl) H) (fun x97 H => ?_)
              refine ls_d (d := none) (by kernel_rfl) (by kernel_rfl) HA_4 (d_st Try.sizeOf3 (by kernel_rfl) (by kernel_rfl) H) (fun _ h_9 w_10 H HA_10 => ?_)
              refine ls_nil ?_
              refine block_normal ?_
              exact ⟨(fun i => ([x90, x14, x90, undef, undef, x95, x14, x95, x7, x97, undef, undef, undef, undef, undef, undef, undef, undef, undef, undef, undef, undef, undef, undef, undef, undef, undef, undef, undef, undef, undef, undef, undef, undef, undef, undef, undef, undef, undef, undef, undef, undef, undef, undef, undef, undef, undef, undef, undef, undef] ++ [undef, undef, undef, undef, undef, undef, undef, undef, undef, undef, undef, undef, undef, undef, undef, undef, undef, undef, undef, undef, undef, undef, undef, undef, undef, undef, undef, undef, undef, undef, undef, undef, undef, undef, undef, undef, undef, undef, undef, undef, undef, undef, undef, undef]).getD i undef), h_9, by kernel_rfl, HA_10, H⟩
            · refine wp_seq ?_
              refine lwp_list ?_
              refine ls_move (x := x14) (by kernel_rfl) (by kernel_rfl) ?_
              refine ls_p (d := some 100) (by kernel_rfl) (by kernel_rfl) (p_sEq (by kernel_rfl) (by kernel_rfl) H) (fun x100 H => ?_)
              refine ls_assign (x := x100) (by kernel_rfl) (by kernel_rfl) ?_
              refine ls_nil ?_
              refine then_normal ?_
              refine fr_eq (b := ⟨([x0, x1, x2, undef, x4, x14, x6, x7, x1, x9, x10, undef, x1, x13, x14, x1, x16, x14, x18, x18, (D 0), (D 1), x22, (D_1 0), (D_1 1), (D_1 2), (D_1 3), (D_1 4), (D_1 5), (D_1 6), (D_1 7), (D_1 8), (D_1 9), (D_1 10), (D_1 11), (D_1 12), (D_1 13), (D_1 14), (D_1 15), (D_1 16), (D_1 17), (D_1 18), (D_1 19), (D_1 20), (D_1 21), (D_1 22), (D_1 23), (D_1 24), (D_1 25), (D_1 26)] ++ [(D_1 27), (D_1 28), (D_1 29), (D_1 30), (D_1 31), (D_1 32), (D_1 33), (D_1 34), (D_1 35), (D_1 36), (D_1 37), (D_1 38), (D_1 39), (D_1 40), (D_1 41), (D_1 42), (D_1 43), (D_1 44), (D_1 45), (D_1 46), (D_1 47), (D_1 48), (D_1 49), (D_1 50), (D_1 51), (D_1 52), (D_1 53), (D_1 54), (D_1 55), (D_1 56), (D_1 57), (D_1 58), (D_1 59), (D_1 60), (D_1 61), (D_1 62), (D_1 63), (D_1 64), x90, x14, x90, undef, undef, x95, x14, x95, undef, undef, x100, x14] ++ [x100, undef, undef, undef, undef, undef, undef, undef, undef, undef, undef, undef, undef, undef, undef, undef, undef, undef, undef, undef, undef, undef, undef, undef, undef, undef, undef, undef, undef, undef, undef, undef, undef, undef, undef, undef, undef, undef, undef, undef, undef, undef, undef, undef, undef, undef, undef, undef, undef, undef] ++ [undef, undef, undef, undef, undef, undef, undef, undef, undef, undef, undef, undef, undef, undef, undef, undef, undef, undef, undef, undef, undef, undef, undef, undef, undef, undef, undef, undef, undef, undef, undef, undef, undef, undef, undef, undef, undef, undef, undef]).toArray, []⟩) (by kernel_rfl) ?_
              refine wp_if rfl H (fun H => ?_) (fun H => ?_)
              · refine lwp_list ?_
                refine ls_p (d := some 101) (by kernel_rfl) (by kernel_rfl) (p_lit (pl := [(0, 1), (1, 1), (2, 1)]) Try.zeroValue23 Try.underlying23 ⟨(by kernel_rfl), Try.sizeOf3, (by kernel_rfl), Try.sizeOf3, (by kernel_rfl), Try.sizeOf3, trivial⟩ (by kernel_rfl) (by kernel_rfl) H) (fun x101 H => ?_)
                refine ls_d (d := none) (by kernel_rfl) (by kernel_rfl) HA_4 (d_stn Try.sizeOf23 (by kernel_rfl) (by kernel_rfl) H) (fun _ h_10 w_11 H HA_11 => ?_)
                refine ls_nil ?_
                refine block_normal ?_
                exact ⟨(fun i => ([x90, x14, x90, undef, undef, x95, x14, x95, undef, undef, x100, x14, x100, x101, undef, undef, undef, undef, undef, undef, undef, undef, undef, undef, undef, undef, undef, undef, undef, undef, undef, undef, undef, undef, undef, undef, undef, undef, undef, undef, undef, undef, undef, undef, undef, undef, undef, undef, undef, undef] ++ [undef, undef, undef, undef, undef, undef, undef, undef, undef, undef, undef, undef, undef, undef, undef, undef, undef, undef, undef, undef, undef, undef, undef, undef, undef, undef, undef, undef, undef, undef, undef, undef, undef, undef, undef, undef, undef, undef, undef, undef, undef, undef, undef, undef]).getD i undef), h_10, by kernel_rfl, HA_11, H⟩
              · refine wp_seq ?_
                refine lwp_list ?_
                refine ls_move (x := x14) (by kernel_rfl) (by kernel_rfl) ?_
                refine ls_d (d := some 104) (by kernel_rfl) (by kernel_rfl) HA_4 (d_call (by kernel_rfl) (by kernel_rfl) H) (fun x104 h_11 w_12 H HA_12 => ?_)
                refine ls_p (d := some 105) (by kernel_rfl) (by kernel_rfl) (p_sGt (by kernel_rfl) (by kernel_rfl) H) (fun x105 H => ?_)
                refine ls_assign (x := x105) (by kernel_rfl) (by kernel_rfl) ?_
                refine ls_nil ?_
                refine then_normal ?_
                refine fr_eq (b := ⟨([x0, x1, x2, undef, x4, x14, x6, x7, x1, x9, x10, undef, x1, x13, x14, x1, x16, x14, x18, x18, (D 0), (D 1), x22, (D_1 0), (D_1 1), (D_1 2), (D_1 3), (D_1 4), (D_1 5), (D_1 6), (D_1 7), (D_1 8), (D_1 9), (D_1 10), (D_1 11), (D_1 12), (D_1 13), (D_1 14), (D_1 15), (D_1 16), (D_1 17), (D_1 18), (D_1 19), (D_1 20), (D_1 21), (D_1 22), (D_1 23), (D_1 24), (D_1 25), (D_1 26)] ++ [(D_1 27), (D_1 28), (D_1 29), (D_1 30), (D_1 31), (D_1 32), (D_1 33), (D_1 34), (D_1 35), (D_1 36), (D_1 37), (D_1 38), (D_1 39), (D_1 40), (D_1 41), (D_1 42), (D_1 43), (D_1 44), (D_1 45), (D_1 46), (D_1 47), (D_1 48), (D_1 49), (D_1 50), (D_1 51), (D_1 52), (D_1 53), (D_1 54), (D_1 55), (D_1 56), (D_1 57), (D_1 58), (D_1 59), (D_1 60), (D_1 61), (D_1 62), (D_1 63), (D_1 64), x90, x14, x90, undef, undef, x95, x14, x95, undef, undef, x100, x14] ++ [x100, undef, x105, x14, x104, x105, undef, undef, undef, undef, undef, undef, undef, undef, undef, undef, undef, undef, undef, undef, undef, undef, undef, undef, undef, undef, undef, undef, undef, undef, undef, undef, undef, undef, undef, undef, undef, undef, undef, undef, undef, undef, undef, undef, undef, undef, undef, undef, undef, undef] ++ [undef, undef, undef, undef, undef, undef, undef, undef, undef, undef, undef, undef, undef, undef, undef, undef, undef, undef, undef, undef, undef, undef, undef, undef, undef, undef, undef, undef, undef, undef, undef, undef, undef, undef, undef, undef, undef, undef, undef]).toArray, []⟩) (by kernel_rfl) ?_
                refine wp_if rfl H (fun H => ?_) (fun H => ?_)
                · obtain ⟨C, HC, H⟩ := H
                  refine lwp_mx (Nat.testBit 88) (Nat.testBit 8) (Nat.testBit 37) [0, 1, 0, 4, 15, 31, 63] C [0, 1, 2, 3, 4, 5, 6] (by kernel_rfl) (by kernel_rfl) (by kernel_rfl) HA_12 HC ?_
                  intro w_13 HA_13
                  refine lm_p (d := some 106) (by kernel_rfl) rfl (by kernel_rfl) (by kernel_rfl) (p_off Try.underlying23 rfl (fun w => ⟨_, Try.sizeOf3 w⟩) rfl (by kernel_rfl) H) (fun x106 H => ?_)
                  refine lm_f (d := some 107) (by kernel_rfl) rfl (by kernel_rfl) (by kernel_rfl) (by kernel_rfl) (c_ld Try.isAgg3 (by kernel_rfl) H) (fun x107 H => ?_)
                  refine lm_al (x := x14) (d := some 108) (by kernel_rfl) rfl (by kernel_rfl) (by kernel_rfl) (al_move (by kernel_rfl)) ?_
                  refine lm_dc (d := some 109) (by kernel_rfl) rfl (by kernel_rfl) (by kernel_rfl) HA_13 (d_call (by kernel_rfl) (by kernel_rfl) H) (fun x109 h_12 w_14 H HA_14 => ?_)
                  refine lm_d (d := some 110) (by kernel_rfl) rfl (by kernel_rfl) (by kernel_rfl) (by kernel_rfl) HA_14 (d_call (by kernel_rfl) (by kernel_rfl) H) (fun x110 h_13 w_15 H HA_15 => ?_)
                  refine lm_p (d := some 111) (by kernel_rfl) rfl (by kernel_rfl) (by kernel_rfl) (p_off Try.underlying23 rfl (fun w => ⟨_, Try.sizeOf3 w⟩) rfl (by kernel_rfl) H) (fun x111 H => ?_)
                  refine lm_fr (b := ⟨([x0, x1, x2, undef, x4, x14, x6, x7, x1, x9, x10, undef, x1, x13, x14, x1, x16, x14, x18, x18, (D 0), (D 1), x22, (D_1 0), (D_1 1), (D_1 2), (D_1 3), (D_1 4), (D_1 5), (D_1 6), (D_1 7), (D_1 8), (D_1 9), (D_1 10), (D_1 11), (D_1 12), (D_1 13), (D_1 14), (D_1 15), (D_1 16), (D_1 17), (D_1 18), (D_1 19), (D_1 20), (D_1 21), (D_1 22), (D_1 23), (D_1 24), (D_1 25), (D_1 26)] ++ [(D_1 27), (D_1 28), (D_1 29), (D_1 30), (D_1 31), (D_1 32), (D_1 33), (D_1 34), (D_1 35), (D_1 36), (D_1 37), (D_1 38), (D_1 39), (D_1 40), (D_1 41), (D_1 42), (D_1 43), (D_1 44), (D_1 45), (D_1 46), (D_1 47), (D_1 48), (D_1 49), (D_1 50), (D_1 51), (D_1 52), (D_1 53), (D_1 54), (D_1 55), (D_1 56), (D_1 57), (D_1 58), (D_1 59), (D_1 60), (D_1 61), (D_1 62), (D_1 63), (D_1 64), x90, x14, x90, undef, undef, x95, x14, x95, undef, undef, x100, x14] ++ [x100, undef, x105, x14, x104, x105, x106, x107, x14, x109, x110, x111, undef, undef, undef, undef, undef, undef, undef, undef, undef, undef, undef, undef, undef, undef, undef, undef, undef, undef, undef, undef, undef, undef, undef, undef, undef, undef, undef, undef, undef, undef, undef, undef, undef, undef, undef, undef, undef, undef] ++ [undef, undef, undef, undef, undef, undef, undef, undef, undef, undef, undef, undef, undef, undef, undef, undef, undef, undef, undef, undef, undef, undef, undef, undef, undef, undef, undef, undef, undef, undef, undef, undef, undef, undef, undef, undef, undef, undef, undef]).toArray, []⟩) (by kernel_rfl) ?_
                  refine lm_d (d := none) (by kernel_rfl) rfl (by kernel_rfl) (by kernel_rfl) (by kernel_rfl) HA_15 (d_st Try.sizeOf3 (by kernel_rfl) (by kernel_rfl) H) (fun _ h_14 w_16 H HA_16 => ?_)
                  refine lm_nil ?_
                  refine block_normal ?_
                  exact ⟨(fun i => ([x90, x14, x90, undef, undef, x95, x14, x95, undef, undef, x100, x14, x100, undef, x105, x14, x104, x105, x106, x107, x14, x109, x110, x111, undef, undef, undef, undef, undef, undef, undef, undef, undef, undef, undef, undef, undef, undef, undef, undef, undef, undef, undef, undef, undef, undef, undef, undef, undef, undef] ++ [undef, undef, undef, undef, undef, undef, undef, undef, undef, undef, undef, undef, undef, undef, undef, undef, undef, undef, undef, undef, undef, undef, undef, undef, undef, undef, undef, undef, undef, undef, undef, undef, undef, undef, undef, undef, undef, undef, undef, undef, undef, undef, undef, undef]).getD i undef), h_14, by kernel_rfl, HA_16, H⟩
                · refine wp_seq ?_
                  refine lwp_list ?_
                  refine ls_move (x := x14) (by kernel_rfl) (by kernel_rfl) ?_
                  refine ls_p (d := some 114) (by kernel_rfl) (by kernel_rfl) (p_sEq (by kernel_rfl) (by kernel_rfl) H) (fun x114 H => ?_)
                  refine ls_assign (x := x114) (by kernel_rfl) (by kernel_rfl) ?_
                  refine ls_nil ?_
                  refine then_normal ?_
                  refine fr_eq (b := ⟨([x0, x1, x2, undef, x4, x14, x6, x7, x1, x9, x10, undef, x1, x13, x14, x1, x16, x14, x18, x18, (D 0), (D 1), x22, (D_1 0), (D_1 1), (D_1 2), (D_1 3), (D_1 4), (D_1 5), (D_1 6), (D_1 7), (D_1 8), (D_1 9), (D_1 10), (D_1 11), (D_1 12), (D_1 13), (D_1 14), (D_1 15), (D_1 16), (D_1 17), (D_1 18), (D_1 19), (D_1 20), (D_1 21), (D_1 22), (D_1 23), (D_1 24), (D_1 25), (D_1 26)] ++ [(D_1 27), (D_1 28), (D_1 29), (D_1 30), (D_1 31), (D_1 32), (D_1 33), (D_1 34), (D_1 35), (D_1 36), (D_1 37), (D_1 38), (D_1 39), (D_1 40), (D_1 41), (D_1 42), (D_1 43), (D_1 44), (D_1 45), (D_1 46), (D_1 47), (D_1 48), (D_1 49), (D_1 50), (D_1 51), (D_1 52), (D_1 53), (D_1 54), (D_1 55), (D_1 56), (D_1 57), (D_1 58), (D_1 59), (D_1 60), (D_1 61), (D_1 62), (D_1 63), (D_1 64), x90, x14, x90, undef, undef, x95, x14, x95, undef, undef, x100, x14] ++ [x100, undef, x105, x14, x104, x105, undef, undef, undef, undef, undef, undef, x114, x14, x114, undef, undef, undef, undef, undef, undef, undef, undef, undef, undef, undef, undef, undef, undef, undef, undef, undef, undef, undef, undef, undef, undef, undef, undef, undef, undef, undef, undef, undef, undef, undef, undef, undef, undef, undef] ++ [undef, undef, undef, undef, undef, undef, undef, undef, undef, undef, undef, undef, undef, undef, undef, undef, undef, undef, undef, undef, undef, undef, undef, undef, undef, undef, undef, undef, undef, undef, undef, undef, undef, undef, undef, undef, undef, undef, undef]).toArray, []⟩) (by kernel_rfl) ?_
                  refine wp_if rfl H (fun H => ?_) (fun H => ?_)
                  · refine lwp_list ?_
                    refine ls_p (d := some 115) (by kernel_rfl) (by kernel_rfl) (p_off Try.underlying23 rfl (fun w => ⟨_, Try.sizeOf3 w⟩) rfl (by kernel_rfl) H) (fun x115 H => ?_)
                    refine ls_y (d := some 116) (by kernel_rfl) (by kernel_rfl) HA_12 (y_ld Try.isAgg3 (by kernel_rfl) H) (fun x116 H => ?_)
                    refine ls_d (d := some 117) (by kernel_rfl) (by kernel_rfl) HA_12 (d_call (by kernel_rfl) (by kernel_rfl) H) (fun x117 h_15 w_17 H HA_17 => ?_)
                    refine ls_d (d := some 118) (by kernel_rfl) (by kernel_rfl) HA_17 (d_call (by kernel_rfl) (by kernel_rfl) H) (fun x118 h_16 w_18 H HA_18 => ?_)
                    refine ls_p (d := some 119) (by kernel_rfl) (by kernel_rfl) (p_off Try.underlying23 rfl (fun w => ⟨_, Try.sizeOf3 w⟩) rfl (by kernel_rfl) H) (fun x119 H => ?_)
                    refine ls_d (d := none) (by kernel_rfl) (by kernel_rfl) HA_18 (d_st Try.sizeOf3 (by kernel_rfl) (by kernel_rfl) H) (fun _ h_17 w_19 H HA_19 => ?_)
                    refine ls_nil ?_
                    refine block_normal ?_
                    exact ⟨(fun i => ([x90, x14, x90, undef, undef, x95, x14, x95, undef, undef, x100, x14, x100, undef, x105, x14, x104, x105, undef, undef, undef, undef, undef, undef, x114, x14, x114, x115, x116, x117, x118, x119, undef, undef, undef, undef, undef, undef, undef, undef, undef, undef, undef, undef, undef, undef, undef, undef, undef, undef] ++ [undef, undef, undef, undef, undef, undef, undef, undef, undef, undef, undef, undef, undef, undef, undef, undef, undef, undef, undef, undef, undef, undef, undef, undef, undef, undef, undef, undef, undef, undef, undef, undef, undef, undef, undef, undef, undef, undef, undef, undef, undef, undef, undef, undef]).getD i undef), h_17, by kernel_rfl, HA_19, H⟩
                  · refine wp_seq ?_
                    refine lwp_list ?_
                    refine ls_move (x := x14) (by kernel_rfl) (by kernel_rfl) ?_
                    refine ls_p (d := some 122) (by kernel_rfl) (by kernel_rfl) (p_sGe (by kernel_rfl) (by kernel_rfl) H) (fun x122 H => ?_)
                    refine ls_move (x := x122) (by kernel_rfl) (by kernel_rfl) ?_
                    refine ls_and [(), (), ()] (fun K a w => ∃ (D_3 : Nat → Value) (x126 : Value), a = ⟨([x0, x1, x2, undef, x4, x14, x6, x7, x1, x9, x10, undef, x1, x13, x14, x1, x16, x14, x18, x18, (D 0), (D 1), x22, (D_1 0), (D_1 1), (D_1 2), (D_1 3), (D_1 4), (D_1 5), (D_1 6), (D_1 7), (D_1 8), (D_1 9), (D_1 10), (D_1 11), (D_1 12), (D_1 13), (D_1 14), (D_1 15), (D_1 16), (D_1 17), (D_1 18), (D_1 19), (D_1 20), (D_1 21), (D_1 22), (D_1 23), (D_1 24), (D_1 25), (D_1 26)] ++ [(D_1 27), (D_1 28), (D_1 29), (D_1 30), (D_1 31), (D_1 32), (D_1 33), (D_1 34), (D_1 35), (D_1 36), (D_1 37), (D_1 38), (D_1 39), (D_1 40), (D_1 41), (D_1 42), (D_1 43), (D_1 44), (D_1 45), (D_1 46), (D_1 47), (D_1 48), (D_1 49), (D_1 50), (D_1 51), (D_1 52), (D_1 53), (D_1 54), (D_1 55), (D_1 56), (D_1 57), (D_1 58), (D_1 59), (D_1 60), (D_1 61), (D_1 62), (D_1 63), (D_1 64), x90, x14, x90, undef, undef, x95, x14, x95, undef, undef, x100, x14] ++ [x100, undef, x105, x14, x104, x105, undef, undef, undef, undef, undef, undef, x114, x14, x114, undef, undef, undef, undef, undef, undef, x14, x122, x122, (D_3 0), (D_3 1), x126, undef, undef, undef, undef, undef, undef, undef, undef, undef, undef, undef, undef, undef, undef, undef, undef, undef, undef, undef, undef, undef, undef, undef] ++ [undef, undef, undef, undef, undef, undef, undef, undef, undef, undef, undef, undef, undef, undef, undef, undef, undef, undef, undef, undef, undef, undef, undef, undef, undef, undef, undef, undef, undef, undef, undef, undef, undef, undef, undef, undef, undef, undef, undef]).toArray, []⟩ ∧ At w0 w h_11 ∧ K x126) H (fun hb_4 H => ?_) (fun hb_4 H => ?_) ?_
                    · refine ls_move (x := x14) (by rw [hb_4]; kernel_rfl) (by kernel_rfl) ?_
                      refine ls_p (d := some 125) (by kernel_rfl) (by rw [hb_4]; kernel_rfl) (p_sLe (by kernel_rfl) (by kernel_rfl) H) (fun x125 H => ?_)
                      refine ls_pick_t (x := x125) (by kernel_rfl) (by rw [hb_4]; kernel_rfl) (by kernel_rfl) ?_
                      refine ls_nil ?_
                      refine then_normal ?_
                      exact ⟨(fun i => ([x14, x125]).getD i undef), x125, by kernel_rfl, HA_12, H⟩
                    · refine ls_skip (d := some 124) (by kernel_rfl) (by rw [hb_4]; kernel_rfl) ?_
                      refine ls_skip (d := some 125) (by kernel_rfl) (by rw [hb_4]; kernel_rfl) ?_
                      refine ls_pick_f (y := (.bool false)) (by kernel_rfl) (by rw [hb_4]; kernel_rfl) (by kernel_rfl) ?_
                      refine ls_nil ?_
                      refine then_normal ?_
                      exact ⟨(fun i => ([undef, undef]).getD i undef), (.bool false), by kernel_rfl, HA_12, H⟩
                    · rintro _ w_20 ⟨D_3, x126, rfl, HA_20, H⟩
                      refine ls_assign (x := x126) (by kernel_rfl) (by kernel_rfl) ?_
                      refine ls_nil ?_
                      refine then_normal ?_
                      refine fr_eq (b := ⟨([x0, x1, x2, undef, x4, x14, x6, x7, x1, x9, x10, undef, x1, x13, x14, x1, x16, x14, x18, x18, (D 0), (D 1), x22, (D_1 0), (D_1 1), (D_1 2), (D_1 3), (D_1 4), (D_1 5), (D_1 6), (D_1 7), (D_1 8), (D_1 9), (D_1 10), (D_1 11), (D_1 12), (D_1 13), (D_1 14), (D_1 15), (D_1 16), (D_1 17), (D_1 18), (D_1 19), (D_1 20), (D_1 21), (D_1 22), (D_1 23), (D_1 24), (D_1 25), (D_1 26)] ++ [(D_1 27), (D_1 28), (D_1 29), (D_1 30), (D_1 31), (D_1 32), (D_1 33), (D_1 34), (D_1 35), (D_1 36), (D_1 37), (D_1 38), (D_1 39), (D_1 40), (D_1 41), (D_1 42), (D_1 43), (D_1 44), (D_1 45), (D_1 46), (D_1 47), (D_1 48), (D_1 49), (D_1 50), (D_1 51), (D_1 52), (D_1 53), (D_1 54), (D_1 55), (D_1 56), (D_1 57), (D_1 58), (D_1 59), (D_1 60), (D_1 61), (D_1 62), (D_1 63), (D_1 64), x90, x14, x90, undef, undef, x95, x14, x95, undef, undef, x100, x14] ++ [x100, undef, x105, x14, x104, x105, undef, undef, undef, undef, undef, undef, x114, x14, x114, undef, undef, undef, undef, undef, x126, x14, x122, x122, (D_3 0), (D_3 1), x126, undef, undef, undef, undef, undef, undef, undef, undef, undef, undef, undef, undef, undef, undef, undef, undef, undef, undef, undef, undef, undef, undef, undef] ++ [undef, undef, undef, undef, undef, undef, undef, undef, undef, undef, undef, undef, undef, undef, undef, undef, undef, undef, undef, undef, undef, undef, undef, undef, undef, undef, undef, undef, undef, undef, undef, undef, undef, undef, undef, undef, undef, undef, undef]).toArray, []⟩) (by kernel_rfl) ?_
                      refine wp_if rfl H (fun H => ?_) (fun H => ?_)
                      · obtain ⟨C_1, HC, H⟩ := H
                        refine lwp_mx (Nat.testBit 176) (Nat.testBit 16) (Nat.testBit 77) [0, 1, 0, 4, 12, 31, 63, 127] C_1 [0, 1, 2, 3, 4, 5, 6, 7] (by kernel_rfl) (by kernel_rfl) (by kernel_rfl) HA_20 HC ?_
                        intro w_21 HA_21
                        refine lm_p (d := some 127) (by kernel_rfl) rfl (by kernel_rfl) (by kernel_rfl) (p_off Try.underlying23 rfl (fun w => ⟨_, Try.sizeOf3 w⟩) rfl (by kernel_rfl) H) (fun x127 H => ?_)
                        refine lm_f (d := some 128) (by kernel_rfl) rfl (by kernel_rfl) (by kernel_rfl) (by kernel_rfl) (c_ld Try.isAgg3 (by kernel_rfl) H) (fun x128 H => ?_)
                        refine lm_al (x := x14) (d := some 129) (by kernel_rfl) rfl (by kernel_rfl) (by kernel_rfl) (al_move (by kernel_rfl)) ?_
                        refine lm_p (d := some 130) (by kernel_rfl) rfl (by kernel_rfl) (by kernel_rfl) (p_sub (by kernel_rfl) (by kernel_rfl) H) (fun x130 H => ?_)
                        refine lm_dc (d := some 131) (by kernel_rfl) rfl (by kernel_rfl) (by kernel_rfl) HA_21 (d_call (by kernel_rfl) (by kernel_rfl) H) (fun x131 h_18 w_22 H HA_22 => ?_)
                        refine lm_d (d := some 132) (by kernel_rfl) rfl (by kernel_rfl) (by kernel_rfl) (by kernel_rfl) HA_22 (d_call (by kernel_rfl) (by kernel_rfl) H) (fun x132 h_19 w_23 H HA_23 => ?_)
                        refine lm_fr (b := ⟨([x0, x1, x2, undef, x4, x14, x6, x7, x1, x9, x10, undef, x1, x13, x14, x1, x16, x14, x18, x18, (D 0), (D 1), x22, (D_1 0), (D_1 1), (D_1 2), (D_1 3), (D_1 4), (D_1 5), (D_1 6), (D_1 7), (D_1 8), (D_1 9), (D_1 10), (D_1 11), (D_1 12), (D_1 13), (D_1 14), (D_1 15), (D_1 16), (D_1 17), (D_1 18), (D_1 19), (D_1 20), (D_1 21), (D_1 22), (D_1 23), (D_1 24), (D_1 25), (D_1 26)] ++ [(D_1 27), (D_1 28), (D_1 29), (D_1 30), (D_1 31), (D_1 32), (D_1 33), (D_1 34), (D_1 35), (D_1 36), (D_1 37), (D_1 38), (D_1 39), (D_1 40), (D_1 41), (D_1 42), (D_1 43), (D_1 44), (D_1 45), (D_1 46), (D_1 47), (D_1 48), (D_1 49), (D_1 50), (D_1 51), (D_1 52), (D_1 53), (D_1 54), (D_1 55), (D_1 56), (D_1 57), (D_1 58), (D_1 59), (D_1 60), (D_1 61), (D_1 62), (D_1 63), (D_1 64), x90, x14, x90, undef, undef, x95, x14, x95, undef, undef, x100, x14] ++ [x100, undef, x105, x14, x104, x105, undef, undef, undef, undef, undef, undef, x114, x14, x114, undef, undef, undef, undef, undef, x126, x14, x122, x122, (D_3 0), (D_3 1), x126, x127, x128, x14, x130, x131, x132, undef, undef, undef, undef, undef, undef, undef, undef, undef, undef, undef, undef, undef, undef, undef, undef, undef] ++ [undef, undef, undef, undef, undef, undef, undef, undef, undef, undef, undef, undef, undef, undef, undef, undef, undef, undef, undef, undef, undef, undef, undef, undef, undef, undef, undef, undef, undef, undef, undef, undef, undef, undef, undef, undef, undef, undef, undef]).toArray, []⟩) (by kernel_rfl) ?_
                        refine lm_p (d := some 133) (by kernel_rfl) rfl (by kernel_rfl) (by kernel_rfl) (p_off Try.underlying23 rfl (fun w => ⟨_, Try.sizeOf3 w⟩) rfl (by kernel_rfl) H) (fun x133 H => ?_)
                        refine lm_d (d := none) (by kernel_rfl) rfl (by kernel_rfl) (by kernel_rfl) (by kernel_rfl) HA_23 (d_st Try.sizeOf3 (by kernel_rfl) (by kernel_rfl) H) (fun _ h_20 w_24 H HA_24 => ?_)
                        refine lm_nil ?_
                        refine block_normal ?_
                        exact ⟨(fun i => ([x90, x14, x90, undef, undef, x95, x14, x95, undef, undef, x100, x14, x100, undef, x105, x14, x104, x105, undef, undef, undef, undef, undef, undef, x114, x14, x114, undef, undef, undef, undef, undef, x126, x14, x122, x122, (D_3 0), (D_3 1), x126, x127, x128, x14, x130, x131, x132, x133, undef, undef, undef, undef] ++ [undef, undef, undef, undef, undef, undef, undef, undef, undef, undef, undef, undef, undef, undef, undef, undef, undef, undef, undef, undef, undef, undef, undef, undef, undef, undef, undef, undef, undef, undef, undef, undef, undef, undef, undef, undef, undef, undef, undef, undef, undef, undef, undef, undef]).getD i undef), h_20, by kernel_rfl, HA_24, H⟩
                      · refine wp_seq ?_
                        refine lwp_list ?_
                        refine ls_move (x := x14) (by kernel_rfl) (by kernel_rfl) ?_
                        refine ls_p (d := some 136) (by kernel_rfl) (by kernel_rfl) (p_sGe (by kernel_rfl) (by kernel_rfl) H) (fun x136 H => ?_)
                        refine ls_move (x := x136) (by kernel_rfl) (by kernel_rfl) ?_
                        refine ls_and [(), (), ()] (fun K a w => ∃ (D_4 : Nat → Value) (x140 : Value), a = ⟨([x0, x1, x2, undef, x4, x14, x6, x7, x1, x9, x10, undef, x1, x13, x14, x1, x16, x14, x18, x18, (D 0), (D 1), x22, (D_1 0), (D_1 1), (D_1 2), (D_1 3), (D_1 4), (D_1 5), (D_1 6), (D_1 7), (D_1 8), (D_1 9), (D_1 10), (D_1 11), (D_1 12), (D_1 13), (D_1 14), (D_1 15), (D_1 16), (D_1 17), (D_1 18), (D_1 19), (D_1 20), (D_1 21), (D_1 22), (D_1 23), (D_1 24), (D_1 25), (D_1 26)] ++ [(D_1 27), (D_1 28), (D_1 29), (D_1 30), (D_1 31), (D_1 32), (D_1 33), (D_1 34), (D_1 35), (D_1 36), (D_1 37), (D_1 38), (D_1 39), (D_1 40), (D_1 41), (D_1 42), (D_1 43), (D_1 44), (D_1 45), (D_1 46), (D_1 47), (D_1 48), (D_1 49), (D_1 50), (D_1 51), (D_1 52), (D_1 53), (D_1 54), (D_1 55), (D_1 56), (D_1 57), (D_1 58), (D_1 59), (D_1 60), (D_1 61), (D_1 62), (D_1 63), (D_1 64), x90, x14, x90, undef, undef, x95, x14, x95, undef, undef, x100, x14] ++ [x100, undef, x105, x14, x104, x105, undef, undef, undef, undef, undef, undef, x114, x14, x114, undef, undef, undef, undef, undef, x126, x14, x122, x122, (D_3 0), (D_3 1), x126, undef, undef, undef, undef, undef, undef, undef, undef, x14, x136, x136, (D_4 0), (D_4 1), x140, undef, undef, undef, undef, undef, undef, undef, undef, undef] ++ [undef, undef, undef, undef, undef, undef, undef, undef, undef, undef, undef, undef, undef, undef, undef, undef, undef, undef, undef, undef, undef, undef, undef, undef, undef, undef, undef, undef, undef, undef, undef, undef, undef, undef, undef, undef, undef, undef, undef]).toArray, []⟩ ∧ At w0 w h_11 ∧ K x140) H (fun hb_3 H => ?_) (fun hb_3 H => ?_) ?_
                        · refine ls_move (x := x14) (by rw [hb_3]; kernel_rfl) (by kernel_rfl) ?_
                          refine ls_p (d := some 139) (by kernel_rfl) (by rw [hb_3]; kernel_rfl) (p_sLe (by kernel_rfl) (by kernel_rfl) H) (fun x139 H => ?_)
                          refine ls_pick_t (x := x139) (by kernel_rfl) (by rw [hb_3]; kernel_rfl) (by kernel_rfl) ?_
                          refine ls_nil ?_
                          refine then_normal ?_
                          exact ⟨(fun i => ([x14, x139]).getD i undef), x139, by kernel_rfl, HA_20, H⟩
                        · refine ls_skip (d := some 138) (by kernel_rfl) (by rw [hb_3]; kernel_rfl) ?_
                          refine ls_skip (d := some 139) (by kernel_rfl) (by rw [hb_3]; kernel_rfl) ?_
                          refine ls_pick_f (y := (.bool false)) (by kernel_rfl) (by rw [hb_3]; kernel_rfl) (by kernel_rfl) ?_
                          refine ls_nil ?_
                          refine then_normal ?_
                          exact ⟨(fun i => ([undef, undef]).getD i undef), (.bool false), by kernel_rfl, HA_20, H⟩
                        · rintro _ w_25 ⟨D_4, x140, rfl, HA_25, H⟩
                          refine ls_assign (x := x140) (by kernel_rfl) (by kernel_rfl) ?_
                          refine ls_nil ?_
                          refine then_normal ?_
                          refine fr_eq (b := ⟨([x0, x1, x2, undef, x4, x14, x6, x7, x1, x9, x10, undef, x1, x13, x14, x1, x16, x14, x18, x18, (D 0), (D 1), x22, (D_1 0), (D_1 1), (D_1 2), (D_1 3), (D_1 4), (D_1 5), (D_1 6), (D_1 7), (D_1 8), (D_1 9), (D_1 10), (D_1 11), (D_1 12), (D_1 13), (D_1 14), (D_1 15), (D_1 16), (D_1 17), (D_1 18), (D_1 19), (D_1 20), (D_1 21), (D_1 22), (D_1 23), (D_1 24), (D_1 25), (D_1 26)] ++ [(D_1 27), (D_1 28), (D_1 29), (D_1 30), (D_1 31), (D_1 32), (D_1 33), (D_1 34), (D_1 35), (D_1 36), (D_1 37), (D_1 38), (D_1 39), (D_1 40), (D_1 41), (D_1 42), (D_1 43), (D_1 44), (D_1 45), (D_1 46), (D_1 47), (D_1 48), (D_1 49), (D_1 50), (D_1 51), (D_1 52), (D_1 53), (D_1 54), (D_1 55), (D_1 56), (D_1 57), (D_1 58), (D_1 59), (D_1 60), (D_1 61), (D_1 62), (D_1 63), (D_1 64), x90, x14, x90, undef, undef, x95, x14, x95, undef, undef, x100, x14] ++ [x100, undef, x105, x14, x104, x105, undef, undef, undef, undef, undef, undef, x114, x14, x114, undef, undef, undef, undef, undef, x126, x14, x122, x122, (D_3 0), (D_3 1), x126, undef, undef, undef, undef, undef, undef, undef, x140, x14, x136, x136, (D_4 0), (D_4 1), x140, undef, undef, undef, undef, undef, undef, undef, undef, undef] ++ [undef, undef, undef, undef, undef, undef, undef, undef, undef, undef, undef, undef, undef, undef, undef, undef, undef, undef, undef, undef, undef, undef, undef, undef, undef, undef, undef, undef, undef, undef, undef, undef, undef, undef, undef, undef, undef, undef, undef]).toArray, []⟩) (by kernel_rfl) ?_
                          refine wp_if rfl H (fun H => ?_) (fun H => ?_)
                          · refine lwp_list ?_
                            refine ls_move (x := x14) (by kernel_rfl) (by kernel_rfl) ?_
                            refine ls_p (d := some 142) (by kernel_rfl) (by kernel_rfl) (p_sub (by kernel_rfl) (by kernel_rfl) H) (fun x142 H => ?_)
                            refine ls_p (d := some 143) (by kernel_rfl) (by kernel_rfl) (p_off Try.underlying23 rfl (fun w => ⟨_, Try.sizeOf3 w⟩) rfl (by kernel_rfl) H) (fun x143 H => ?_)
                            refine ls_d (d := none) (by kernel_rfl) (by kernel_rfl) HA_25 (d_st Try.sizeOf3 (by kernel_rfl) (by kernel_rfl) H) (fun _ h_21 w_26 H HA_26 => ?_)
                            refine ls_nil ?_
                            refine block_normal ?_
                            exact ⟨(fun i => ([x90, x14, x90, undef, undef, x95, x14, x95, undef, undef, x100, x14, x100, undef, x105, x14, x104, x105, undef, undef, undef, undef, undef, undef, x114, x14, x114, undef, undef, undef, undef, undef, x126, x14, x122, x122, (D_3 0), (D_3 1), x126, undef, undef, undef, undef, undef, undef, undef, x140, x14, x136, x136] ++ [(D_4 0), (D_4 1), x140, x14, x142, x143, undef, undef, undef, undef, undef, undef, undef, undef, undef, undef, undef, undef, undef, undef, undef, undef, undef, undef, undef, undef, undef, undef, undef, undef, undef, undef, undef, undef, undef, undef, undef, undef, undef, undef, undef, undef, undef, undef]).getD i undef), h_21, by kernel_rfl, HA_26, H⟩
                          · refine wp_seq ?_
                            refine lwp_list ?_
                            refine ls_move (x := x14) (by kernel_rfl) (by kernel_rfl) ?_
                            refine ls_p (d := some 146) (by kernel_rfl) (by kernel_rfl) (p_sGe (by kernel_rfl) (by kernel_rfl) H) (fun x146 H => ?_)
                            refine ls_move (x := x146) (by kernel_rfl) (by kernel_rfl) ?_
                            refine ls_and [(), (), ()] (fun K a w => ∃ (D_5 : Nat → Value) (x150 : Value), a = ⟨([x0, x1, x2, undef, x4, x14, x6, x7, x1, x9, x10, undef, x1, x13, x14, x1, x16, x14, x18, x18, (D 0), (D 1), x22, (D_1 0), (D_1 1), (D_1 2), (D_1 3), (D_1 4), (D_1 5), (D_1 6), (D_1 7), (D_1 8), (D_1 9), (D_1 10), (D_1 11), (D_1 12), (D_1 13), (D_1 14), (D_1 15), (D_1 16), (D_1 17), (D_1 18), (D_1 19), (D_1 20), (D_1 21), (D_1 22), (D_1 23), (D_1 24), (D_1 25), (D_1 26)] ++ [(D_1 27), (D_1 28), (D_1 29), (D_1 30), (D_1 31), (D_1 32), (D_1 33), (D_1 34), (D_1 35), (D_1 36), (D_1 37), (D_1 38), (D_1 39), (D_1 40), (D_1 41), (D_1 42), (D_1 43), (D_1 44), (D_1 45), (D_1 46), (D_1 47), (D_1 48), (D_1 49), (D_1 50), (D_1 51), (D_1 52), (D_1 53), (D_1 54), (D_1 55), (D_1 56), (D_1 57), (D_1 58), (D_1 59), (D_1 60), (D_1 61), (D_1 62), (D_1 63), (D_1 64), x90, x14, x90, undef, undef, x95, x14, x95, undef, undef, x100, x14] ++ [x100, undef, x105, x14, x104, x105, undef, undef, undef, undef, undef, undef, x114, x14, x114, undef, undef, undef, undef, undef, x126, x14, x122, x122, (D_3 0), (D_3 1), x126, undef, undef, undef, undef, undef, undef, undef, x140, x14, x136, x136, (D_4 0), (D_4 1), x140, undef, undef, undef, undef, x14, x146, x146, (D_5 0), (D_5 1)] ++ [x150, undef, undef, undef, undef, undef, undef, undef, undef, undef, undef, undef, undef, undef, undef, undef, undef, undef, undef, undef, undef, undef, undef, undef, undef, undef, undef, undef, undef, undef, undef, undef, undef, undef, undef, undef, undef, undef, undef]).toArray, []⟩ ∧ At w0 w h_11 ∧ K x150) H (fun hb_2 H => ?_) (fun hb_2 H => ?_) ?_
                            · refine ls_move (x := x14) (by rw [hb_2]; kernel_rfl) (by kernel_rfl) ?_
                              refine ls_p (d := some 149) (by kernel_rfl) (by rw [hb_2]; kernel_rfl) (p_sLe (by kernel_rfl) (by kernel_rfl) H) (fun x149 H => ?_)
                              refine ls_pick_t (x := x149) (by kernel_rfl) (by rw [hb_2]; kernel_rfl) (by kernel_rfl) ?_
                              refine ls_nil ?_
                              refine then_normal ?_
                              exact ⟨(fun i => ([x14, x149]).getD i undef), x149, by kernel_rfl, HA_25, H⟩
                            · refine ls_skip (d := some 148) (by kernel_rfl) (by rw [hb_2]; kernel_rfl) ?_
                              refine ls_skip (d := some 149) (by kernel_rfl) (by rw [hb_2]; kernel_rfl) ?_
                              refine ls_pick_f (y := (.bool false)) (by kernel_rfl) (by rw [hb_2]; kernel_rfl) (by kernel_rfl) ?_
                              refine ls_nil ?_
                              refine then_normal ?_
                              exact ⟨(fun i => ([undef, undef]).getD i undef), (.bool false), by kernel_rfl, HA_25, H⟩
                            · rintro _ w_27 ⟨D_5, x150, rfl, HA_27, H⟩
                              refine ls_assign (x := x150) (by kernel_rfl) (by kernel_rfl) ?_
                              refine ls_nil ?_
                              refine then_normal ?_
                              refine fr_eq (b := ⟨([x0, x1, x2, undef, x4, x14, x6, x7, x1, x9, x10, undef, x1, x13, x14, x1, x16, x14, x18, x18, (D 0), (D 1), x22, (D_1 0), (D_1 1), (D_1 2), (D_1 3), (D_1 4), (D_1 5), (D_1 6), (D_1 7), (D_1 8), (D_1 9), (D_1 10), (D_1 11), (D_1 12), (D_1 13), (D_1 14), (D_1 15), (D_1 16), (D_1 17), (D_1 18), (D_1 19), (D_1 20), (D_1 21), (D_1 22), (D_1 23), (D_1 24), (D_1 25), (D_1 26)] ++ [(D_1 27), (D_1 28), (D_1 29), (D_1 30), (D_1 31), (D_1 32), (D_1 33), (D_1 34), (D_1 35), (D_1 36), (D_1 37), (D_1 38), (D_1 39), (D_1 40), (D_1 41), (D_1 42), (D_1 43), (D_1 44), (D_1 45), (D_1 46), (D_1 47), (D_1 48), (D_1 49), (D_1 50), (D_1 51), (D_1 52), (D_1 53), (D_1 54), (D_1 55), (D_1 56), (D_1 57), (D_1 58), (D_1 59), (D_1 60), (D_1 61), (D_1 62), (D_1 63), (D_1 64), x90, x14, x90, undef, undef, x95, x14, x95, undef, undef, x100, x14] ++ [x100, undef, x105, x14, x104, x105, undef, undef, undef, undef, undef, undef, x114, x14, x114, undef, undef, undef, undef, undef, x126, x14, x122, x122, (D_3 0), (D_3 1), x126, undef, undef, undef, undef, undef, undef, undef, x140, x14, x136, x136, (D_4 0), (D_4 1), x140, undef, undef, undef, x150, x14, x146, x146, (D_5 0), (D_5 1)] ++ [x150, undef, undef, undef, undef, undef, undef, undef, undef, undef, undef, undef, undef, undef, undef, undef, undef, undef, undef, undef, undef, undef, undef, undef, undef, undef, undef, undef, undef, undef, undef, undef, undef, undef, undef, undef, undef, undef, undef]).toArray, []⟩) (by kernel_rfl) ?_
                              refine wp_if rfl H (fun H => ?_) (fun H => ?_)
                              · refine lwp_list ?_
                                refine ls_move (x := x14) (by kernel_rfl) (by kernel_rfl) ?_
                                refine ls_p (d := some 152) (by kernel_rfl) (by kernel_rfl) (p_sub (by kernel_rfl) (by kernel_rfl) H) (fun x152 H => ?_)
                                refine ls_p (d := some 153) (by kernel_rfl) (by kernel_rfl) (p_off Try.underlying23 rfl (fun w => ⟨_, Try.sizeOf3 w⟩) rfl (by kernel_rfl) H) (fun x153 H => ?_)
                                refine ls_d (d := none) (by kernel_rfl) (by kernel_rfl) HA_27 (d_st Try.sizeOf3 (by kernel_rfl) (by kernel_rfl) H) (fun _ h_22 w_28 H HA_28 => ?_)
                                refine ls_nil ?_
                                refine block_normal ?_
                                exact ⟨(fun i => ([x90, x14, x90, undef, undef, x95, x14, x95, undef, undef, x100, x14, x100, undef, x105, x14, x104, x105, undef, undef, undef, undef, undef, undef, x114, x14, x114, undef, undef, undef, undef, undef, x126, x14, x122, x122, (D_3 0), (D_3 1), x126, undef, undef, undef, undef, undef, undef, undef, x140, x14, x136, x136] ++ [(D_4 0), (D_4 1), x140, undef, undef, undef, x150, x14, x146, x146, (D_5 0), (D_5 1), x150, x14, x152, x153, undef, undef, undef, undef, undef, undef, undef, undef, undef, undef, undef, undef, undef, undef, undef, undef, undef, undef, undef, undef, undef, undef, undef, undef, undef, undef, undef, undef]).getD i undef), h_22, by kernel_rfl, HA_28, H⟩
                              · refine wp_seq ?_
                                refine lwp_list ?_
                                refine ls_move (x := x14) (by kernel_rfl) (by kernel_rfl) ?_
                                refine ls_p (d := some 156) (by kernel_rfl) (by kernel_rfl) (p_sGe (by kernel_rfl) (by kernel_rfl) H) (fun x156 H => ?_)
                                refine ls_move (x := x156) (by kernel_rfl) (by kernel_rfl) ?_
                                refine ls_and [(), (), ()] (fun K a w => ∃ (D_6 : Nat → Value) (x160 : Value), a = ⟨([x0, x1, x2, undef, x4, x14, x6, x7, x1, x9, x10, undef, x1, x13, x14, x1, x16, x14, x18, x18, (D 0), (D 1), x22, (D_1 0), (D_1 1), (D_1 2), (D_1 3), (D_1 4), (D_1 5), (D_1 6), (D_1 7), (D_1 8), (D_1 9), (D_1 10), (D_1 11), (D_1 12), (D_1 13), (D_1 14), (D_1 15), (D_1 16), (D_1 17), (D_1 18), (D_1 19), (D_1 20), (D_1 21), (D_1 22), (D_1 23), (D_1 24), (D_1 25), (D_1 26)] ++ [(D_1 27), (D_1 28), (D_1 29), (D_1 30), (D_1 31), (D_1 32), (D_1 33), (D_1 34), (D_1 35), (D_1 36), (D_1 37), (D_1 38), (D_1 39), (D_1 40), (D_1 41), (D_1 42), (D_1 43), (D_1 44), (D_1 45), (D_1 46), (D_1 47), (D_1 48), (D_1 49), (D_1 50), (D_1 51), (D_1 52), (D_1 53), (D_1 54), (D_1 55), (D_1 56), (D_1 57), (D_1 58), (D_1 59), (D_1 60), (D_1 61), (D_1 62), (D_1 63), (D_1 64), x90, x14, x90, undef, undef, x95, x14, x95, undef, undef, x100, x14] ++ [x100, undef, x105, x14, x104, x105, undef, undef, undef, undef, undef, undef, x114, x14, x114, undef, undef, undef, undef, undef, x126, x14, x122, x122, (D_3 0), (D_3 1), x126, undef, undef, undef, undef, undef, undef, undef, x140, x14, x136, x136, (D_4 0), (D_4 1), x140, undef, undef, undef, x150, x14, x146, x146, (D_5 0), (D_5 1)] ++ [x150, undef, undef, undef, undef, x14, x156, x156, (D_6 0), (D_6 1), x160, undef, undef, undef, undef, undef, undef, undef, undef, undef, undef, undef, undef, undef, undef, undef, undef, undef, undef, undef, undef, undef, undef, undef, undef, undef, undef, undef, undef]).toArray, []⟩ ∧ At w0 w h_11 ∧ K x160) H (fun hb_1 H => ?_) (fun hb_1 H => ?_) ?_
                                · refine ls_move (x := x14) (by rw [hb_1]; kernel_rfl) (by kernel_rfl) ?_
                                  refine ls_p (d := some 159) (by kernel_rfl) (by rw [hb_1]; kernel_rfl) (p_sLe (by kernel_rfl) (by kernel_rfl) H) (fun x159 H => ?_)
                                  refine ls_pick_t (x := x159) (by kernel_rfl) (by rw [hb_1]; kernel_rfl) (by kernel_rfl) ?_
                                  refine ls_nil ?_
                                  refine then_normal ?_
                                  exact ⟨(fun i => ([x14, x159]).getD i undef), x159, by kernel_rfl, HA_27, H⟩
                                · refine ls_skip (d := some 158) (by kernel_rfl) (by rw [hb_1]; kernel_rfl) ?_
                                  refine ls_skip (d := some 159) (by kernel_rfl) (by rw [hb_1]; kernel_rfl) ?_
                                  refine ls_pick_f (y := (.bool false)) (by kernel_rfl) (by rw [hb_1]; kernel_rfl) (by kernel_rfl) ?_
                                  refine ls_nil ?_
                                  refine then_normal ?_
                                  exact ⟨(fun i => ([undef, undef]).getD i undef), (.bool false), by kernel_rfl, HA_27, H⟩
                                · rintro _ w_29 ⟨D_6, x160, rfl, HA_29, H⟩
                                  refine ls_assign (x := x160) (by kernel_rfl) (by kernel_rfl) ?_
                                  refine ls_nil ?_
                                  refine then_normal ?_
                                  refine fr_eq (b := ⟨([x0, x1, x2, undef, x4, x14, x6, x7, x1, x9, x10, undef, x1, x13, x14, x1, x16, x14, x18, x18, (D 0), (D 1), x22, (D_1 0), (D_1 1), (D_1 2), (D_1 3), (D_1 4), (D_1 5), (D_1 6), (D_1 7), (D_1 8), (D_1 9), (D_1 10), (D_1 11), (D_1 12), (D_1 13), (D_1 14), (D_1 15), (D_1 16), (D_1 17), (D_1 18), (D_1 19), (D_1 20), (D_1 21), (D_1 22), (D_1 23), (D_1 24), (D_1 25), (D_1 26)] ++ [(D_1 27), (D_1 28), (D_1 29), (D_1 30), (D_1 31), (D_1 32), (D_1 33), (D_1 34), (D_1 35), (D_1 36), (D_1 37), (D_1 38), (D_1 39), (D_1 40), (D_1 41), (D_1 42), (D_1 43), (D_1 44), (D_1 45), (D_1 46), (D_1 47), (D_1 48), (D_1 49), (D_1 50), (D_1 51), (D_1 52), (D_1 53), (D_1 54), (D_1 55), (D_1 56), (D_1 57), (D_1 58), (D_1 59), (D_1 60), (D_1 61), (D_1 62), (D_1 63), (D_1 64), x90, x14, x90, undef, undef, x95, x14, x95, undef, undef, x100, x14] ++ [x100, undef, x105, x14, x104, x105, undef, undef, undef, undef, undef, undef, x114, x14, x114, undef, undef, undef, undef, undef, x126, x14, x122, x122, (D_3 0), (D_3 1), x126, undef, undef, undef, undef, undef, undef, undef, x140, x14, x136, x136, (D_4 0), (D_4 1), x140, undef, undef, undef, x150, x14, x146, x146, (D_5 0), (D_5 1)] ++ [x150, undef, undef, undef, x160, x14, x156, x156, (D_6 0), (D_6 1), x160, undef, undef, undef, undef, undef, undef, undef, undef, undef, undef, undef, undef, undef, undef, undef, undef, undef, undef, undef, undef, undef, undef, undef, undef, undef, undef, undef, undef]).toArray, []⟩) (by kernel_rfl) ?_
                                  refine wp_if rfl H (fun H => ?_) (fun H => ?_)
                                  · refine lwp_list ?_
                                    refine ls_move (x := x14) (by kernel_rfl) (by kernel_rfl) ?_
                                    refine ls_p (d := some 162) (by kernel_rfl) (by kernel_rfl) (p_sub (by kernel_rfl) (by kernel_rfl) H) (fun x162 H => ?_)
                                    refine ls_p (d := some 163) (by kernel_rfl) (by kernel_rfl) (p_off Try.underlying23 rfl (fun w => ⟨_, Try.sizeOf3 w⟩) rfl (by kernel_rfl) H) (fun x163 H => ?_)
                                    refine ls_d (d := none) (by kernel_rfl) (by kernel_rfl) HA_29 (d_st Try.sizeOf3 (by kernel_rfl) (by kernel_rfl) H) (fun _ h_23 w_30 H HA_30 => ?_)
                                    refine ls_nil ?_
                                    refine block_normal ?_
                                    exact ⟨(fun i => ([x90, x14, x90, undef, undef, x95, x14, x95, undef, undef, x100, x14, x100, undef, x105, x14, x104, x105, undef, undef, undef, undef, undef, undef, x114, x14, x114, undef, undef, undef, undef, undef, x126, x14, x122, x122, (D_3 0), (D_3 1), x126, undef, undef, undef, undef, undef, undef, undef, x140, x14, x136, x136] ++ [(D_4 0), (D_4 1), x140, undef, undef, undef, x150, x14, x146, x146, (D_5 0), (D_5 1), x150, undef, undef, undef, x160, x14, x156, x156, (D_6 0), (D_6 1), x160, x14, x162, x163, undef, undef, undef, undef, undef, undef, undef, undef, undef, undef, undef, undef, undef, undef, undef, undef, undef, undef]).getD i undef), h_23, by kernel_rfl, HA_30, H⟩
                                  · refine wp_seq ?_
                                    refine lwp_list ?_
                                    refine ls_move (x := x14) (by kernel_rfl) (by kernel_rfl) ?_
                                    refine ls_p (d := some 166) (by kernel_rfl) (by kernel_rfl) (p_sGe (by kernel_rfl) (by kernel_rfl) H) (fun x166 H => ?_)
                                    refine ls_move (x := x166) (by kernel_rfl) (by kernel_rfl) ?_
                                    refine ls_and [(), (), ()] (fun K a w => ∃ (D_7 : Nat → Value) (x170 : Value), a = ⟨([x0, x1, x2, undef, x4, x14, x6, x7, x1, x9, x10, undef, x1, x13, x14, x1, x16, x14, x18, x18, (D 0), (D 1), x22, (D_1 0), (D_1 1), (D_1 2), (D_1 3), (D_1 4), (D_1 5), (D_1 6), (D_1 7), (D_1 8), (D_1 9), (D_1 10), (D_1 11), (D_1 12), (D_1 13), (D_1 14), (D_1 15), (D_1 16), (D_1 17), (D_1 18), (D_1 19), (D_1 20), (D_1 21), (D_1 22), (D_1 23), (D_1 24), (D_1 25), (D_1 26)] ++ [(D_1 27), (D_1 28), (D_1 29), (D_1 30), (D_1 31), (D_1 32), (D_1 33), (D_1 34), (D_1 35), (D_1 36), (D_1 37), (D_1 38), (D_1 39), (D_1 40), (D_1 41), (D_1 42), (D_1 43), (D_1 44), (D_1 45), (D_1 46), (D_1 47), (D_1 48), (D_1 49), (D_1 50), (D_1 51), (D_1 52), (D_1 53), (D_1 54), (D_1 55), (D_1 56), (D_1 57), (D_1 58), (D_1 59), (D_1 60), (D_1 61), (D_1 62), (D_1 63), (D_1 64), x90, x14, x90, undef, undef, x95, x14, x95, undef, undef, x100, x14] ++ [x100, undef, x105, x14, x104, x105, undef, undef, undef, undef, undef, undef, x114, x14, x114, undef, undef, undef, undef, undef, x126, x14, x122, x122, (D_3 0), (D_3 1), x126, undef, undef, undef, undef, undef, undef, undef, x140, x14, x136, x136, (D_4 0), (D_4 1), x140, undef, undef, undef, x150, x14, x146, x146, (D_5 0), (D_5 1)] ++ [x150, undef, undef, undef, x160, x14, x156, x156, (D_6 0), (D_6 1), x160, undef, undef, undef, undef, x14, x166, x166, (D_7 0), (D_7 1), x170, undef, undef, undef, undef, undef, undef, undef, undef, undef, undef, undef, undef, undef, undef, undef, undef, undef, undef]).toArray, []⟩ ∧ At w0 w h_11 ∧ K x170) H (fun hb H => ?_) (fun hb H => ?_) ?_
                                    · refine ls_move (x := x14) (by rw [hb]; kernel_rfl) (by kernel_rfl) ?_
                                      refine ls_p (d := some 169) (by kernel_rfl) (by rw [hb]; kernel_rfl) (p_sLe (by kernel_rfl) (by kernel_rfl) H) (fun x169 H => ?_)
                                      refine ls_pick_t (x := x169) (by kernel_rfl) (by rw [hb]; kernel_rfl) (by kernel_rfl) ?_
                                      refine ls_nil ?_
                                      refine then_normal ?_
                                      exact ⟨(fun i => ([x14, x169]).getD i undef), x169, by kernel_rfl, HA_29, H⟩
                                    · refine ls_skip (d := some 168) (by kernel_rfl) (by rw [hb]; kernel_rfl) ?_
                                      refine ls_skip (d := some 169) (by kernel_rfl) (by rw [hb]; kernel_rfl) ?_
                                      refine ls_pick_f (y := (.bool false)) (by kernel_rfl) (by rw [hb]; kernel_rfl) (by kernel_rfl) ?_
                                      refine ls_nil ?_
                                      refine then_normal ?_
                                      exact ⟨(fun i => ([undef, undef]).getD i undef), (.bool false), by kernel_rfl, HA_29, H⟩
                                    · rintro _ w_31 ⟨D_7, x170, rfl, HA_31, H⟩
                                      refine ls_assign (x := x170) (by kernel_rfl) (by kernel_rfl) ?_
                                      refine ls_nil ?_
                                      refine then_normal ?_
                                      refine fr_eq (b := ⟨([x0, x1, x2, undef, x4, x14, x6, x7, x1, x9, x10, undef, x1, x13, x14, x1, x16, x14, x18, x18, (D 0), (D 1), x22, (D_1 0), (D_1 1), (D_1 2), (D_1 3), (D_1 4), (D_1 5), (D_1 6), (D_1 7), (D_1 8), (D_1 9), (D_1 10), (D_1 11), (D_1 12), (D_1 13), (D_1 14), (D_1 15), (D_1 16), (D_1 17), (D_1 18), (D_1 19), (D_1 20), (D_1 21), (D_1 22), (D_1 23), (D_1 24), (D_1 25), (D_1 26)] ++ [(D_1 27), (D_1 28), (D_1 29), (D_1 30), (D_1 31), (D_1 32), (D_1 33), (D_1 34), (D_1 35), (D_1 36), (D_1 37), (D_1 38), (D_1 39), (D_1 40), (D_1 41), (D_1 42), (D_1 43), (D_1 44), (D_1 45), (D_1 46), (D_1 47), (D_1 48), (D_1 49), (D_1 50), (D_1 51), (D_1 52), (D_1 53), (D_1 54), (D_1 55), (D_1 56), (D_1 57), (D_1 58), (D_1 59), (D_1 60), (D_1 61), (D_1 62), (D_1 63), (D_1 64), x90, x14, x90, undef, undef, x95, x14, x95, undef, undef, x100, x14] ++ [x100, undef, x105, x14, x104, x105, undef, undef, undef, undef, undef, undef, x114, x14, x114, undef, undef, undef, undef, undef, x126, x14, x122, x122, (D_3 0), (D_3 1), x126, undef, undef, undef, undef, undef, undef, undef, x140, x14, x136, x136, (D_4 0), (D_4 1), x140, undef, undef, undef, x150, x14, x146, x146, (D_5 0), (D_5 1)] ++ [x150, undef, undef, undef, x160, x14, x156, x156, (D_6 0), (D_6 1), x160, undef, undef, undef, x170, x14, x166, x166, (D_7 0), (D_7 1), x170, undef, undef, undef, undef, undef, undef, undef, undef, undef, undef, undef, undef, undef, undef, undef, undef, undef, undef]).toArray, []⟩) (by kernel_rfl) ?_
                                      refine wp_if rfl H (fun H => ?_) (fun H => ?_)
                                      · refine lwp_list ?_
                                        refine ls_move (x := x14) (by kernel_rfl) (by kernel_rfl) ?_
                                        refine ls_p (d := some 172) (by kernel_rfl) (by kernel_rfl) (p_sub (by kernel_rfl) (by kernel_rfl) H) (fun x172 H => ?_)
                                        refine ls_p (d := some 173) (by kernel_rfl) (by kernel_rfl) (p_off Try.underlying23 rfl (fun w => ⟨_, Try.sizeOf3 w⟩) rfl (by kernel_rfl) H) (fun x173 H => ?_)
                                        refine ls_d (d := none) (by kernel_rfl) (by kernel_rfl) HA_31 (d_st Try.sizeOf3 (by kernel_rfl) (by kernel_rfl) H) (fun _ h_24 w_32 H HA_32 => ?_)
                                        refine ls_nil ?_
                                        refine block_normal ?_
                                        exact ⟨(fun i => ([x90, x14, x90, undef, undef, x95, x14, x95, undef, undef, x100, x14, x100, undef, x105, x14, x104, x105, undef, undef, undef, undef, undef, undef, x114, x14, x114, undef, undef, undef, undef, undef, x126, x14, x122, x122, (D_3 0), (D_3 1), x126, undef, undef, undef, undef, undef, undef, undef, x140, x14, x136, x136] ++ [(D_4 0), (D_4 1), x140, undef, undef, undef, x150, x14, x146, x146, (D_5 0), (D_5 1), x150, undef, undef, undef, x160, x14, x156, x156, (D_6 0), (D_6 1), x160, undef, undef, undef, x170, x14, x166, x166, (D_7 0), (D_7 1), x170, x14, x172, x173, undef, undef, undef, undef, undef, undef, undef, undef]).getD i undef), h_24, by kernel_rfl, HA_32, H⟩
                                      · refine wp_seq ?_
                                        refine lwp_list ?_
                                        refine ls_move (x := x14) (by kernel_rfl) (by kernel_rfl) ?_
                                        refine ls_p (d := some 176) (by kernel_rfl) (by kernel_rfl) (p_sEq (by kernel_rfl) (by kernel_rfl) H) (fun x176 H => ?_)
                                        refine ls_assign (x := x176) (by kernel_rfl) (by kernel_rfl) ?_
                                        refine ls_nil ?_
                                        refine then_normal ?_
                                        refine fr_eq (b := ⟨([x0, x1, x2, undef, x4, x14, x6, x7, x1, x9, x10, undef, x1, x13, x14, x1, x16, x14, x18, x18, (D 0), (D 1), x22, (D_1 0), (D_1 1), (D_1 2), (D_1 3), (D_1 4), (D_1 5), (D_1 6), (D_1 7), (D_1 8), (D_1 9), (D_1 10), (D_1 11), (D_1 12), (D_1 13), (D_1 14), (D_1 15), (D_1 16), (D_1 17), (D_1 18), (D_1 19), (D_1 20), (D_1 21), (D_1 22), (D_1 23), (D_1 24), (D_1 25), (D_1 26)] ++ [(D_1 27), (D_1 28), (D_1 29), (D_1 30), (D_1 31), (D_1 32), (D_1 33), (D_1 34), (D_1 35), (D_1 36), (D_1 37), (D_1 38), (D_1 39), (D_1 40), (D_1 41), (D_1 42), (D_1 43), (D_1 44), (D_1 45), (D_1 46), (D_1 47), (D_1 48), (D_1 49), (D_1 50), (D_1 51), (D_1 52), (D_1 53), (D_1 54), (D_1 55), (D_1 56), (D_1 57), (D_1 58), (D_1 59), (D_1 60), (D_1 61), (D_1 62), (D_1 63), (D_1 64), x90, x14, x90, undef, undef, x95, x14, x95, undef, undef, x100, x14] ++ [x100, undef, x105, x14, x104, x105, undef, undef, undef, undef, undef, undef, x114, x14, x114, undef, undef, undef, undef, undef, x126, x14, x122, x122, (D_3 0), (D_3 1), x126, undef, undef, undef, undef, undef, undef, undef, x140, x14, x136, x136, (D_4 0), (D_4 1), x140, undef, undef, undef, x150, x14, x146, x146, (D_5 0), (D_5 1)] ++ [x150, undef, undef, undef, x160, x14, x156, x156, (D_6 0), (D_6 1), x160, undef, undef, undef, x170, x14, x166, x166, (D_7 0), (D_7 1), x170, undef, undef, undef, x176, x14, x176, undef, undef, undef, undef, undef, undef, undef, undef, undef, undef, undef, undef]).toArray, []⟩) (by kernel_rfl) ?_
                                        refine wp_if rfl H (fun H => ?_) (fun H => ?_)
                                        · refine lwp_list ?_
                                          refine ls_p (d := some 177) (by kernel_rfl) (by kernel_rfl) (p_off Try.underlying23 rfl (fun w => ⟨_, Try.sizeOf3 w⟩) rfl (by kernel_rfl) H) (fun x177 H => ?_)
                                          refine ls_d (d := none) (by kernel_rfl) (by kernel_rfl) HA_31 (d_st Try.sizeOf3 (by kernel_rfl) (by kernel_rfl) H) (fun _ h_25 w_33 H HA_33 => ?_)
                                          refine ls_nil ?_
                                          refine block_normal ?_
                                          exact ⟨(fun i => ([x90, x14, x90, undef, undef, x95, x14, x95, undef, undef, x100, x14, x100, undef, x105, x14, x104, x105, undef, undef, undef, undef, undef, undef, x114, x14, x114, undef, undef, undef, undef, undef, x126, x14, x122, x122, (D_3 0), (D_3 1), x126, undef, undef, undef, undef, undef, undef, undef, x140, x14, x136, x136] ++ [(D_4 0), (D_4 1), x140, undef, undef, undef, x150, x14, x146, x146, (D_5 0), (D_5 1), x150, undef, undef, undef, x160, x14, x156, x156, (D_6 0), (D_6 1), x160, undef, undef, undef, x170, x14, x166, x166, (D_7 0), (D_7 1), x170, undef, undef, undef, x176, x14, x176, x177, undef, undef, undef, undef]).getD i undef), h_25, by kernel_rfl, HA_33, H⟩
                                        · refine wp_seq ?_
                                          refine lwp_list ?_
                                          refine ls_move (x := x14) (by kernel_rfl) (by kernel_rfl) ?_
                                          refine ls_p (d := some 180) (by kernel_rfl) (by kernel_rfl) (p_sEq (by kernel_rfl) (by kernel_rfl) H) (fun x180 H => ?_)
                                          refine ls_assign (x := x180) (by kernel_rfl) (by kernel_rfl) ?_
                                          refine ls_nil ?_
                                          refine then_normal ?_
                                          refine fr_eq (b := ⟨([x0, x1, x2, undef, x4, x14, x6, x7, x1, x9, x10, undef, x1, x13, x14, x1, x16, x14, x18, x18, (D 0), (D 1), x22, (D_1 0), (D_1 1), (D_1 2), (D_1 3), (D_1 4), (D_1 5), (D_1 6), (D_1 7), (D_1 8), (D_1 9), (D_1 10), (D_1 11), (D_1 12), (D_1 13), (D_1 14), (D_1 15), (D_1 16), (D_1 17), (D_1 18), (D_1 19), (D_1 20), (D_1 21), (D_1 22), (D_1 23), (D_1 24), (D_1 25), (D_1 26)] ++ [(D_1 27), (D_1 28), (D_1 29), (D_1 30), (D_1 31), (D_1 32), (D_1 33), (D_1 34), (D_1 35), (D_1 36), (D_1 37), (D_1 38), (D_1 39), (D_1 40), (D_1 41), (D_1 42), (D_1 43), (D_1 44), (D_1 45), (D_1 46), (D_1 47), (D_1 48), (D_1 49), (D_1 50), (D_1 51), (D_1 52), (D_1 53), (D_1 54), (D_1 55), (D_1 56), (D_1 57), (D_1 58), (D_1 59), (D_1 60), (D_1 61), (D_1 62), (D_1 63), (D_1 64), x90, x14, x90, undef, undef, x95, x14, x95, undef, undef, x100, x14] ++ [x100, undef, x105, x14, x104, x105, undef, undef, undef, undef, undef, undef, x114, x14, x114, undef, undef, undef, undef, undef, x126, x14, x122, x122, (D_3 0), (D_3 1), x126, undef, undef, undef, undef, undef, undef, undef, x140, x14, x136, x136, (D_4 0), (D_4 1), x140, undef, undef, undef, x150, x14, x146, x146, (D_5 0), (D_5 1)] ++ [x150, undef, undef, undef, x160, x14, x156, x156, (D_6 0), (D_6 1), x160, undef, undef, undef, x170, x14, x166, x166, (D_7 0), (D_7 1), x170, undef, undef, undef, x176, x14, x176, undef, x180, x14, x180, undef, undef, undef, undef, undef, undef, undef, undef]).toArray, []⟩) (by kernel_rfl) ?_
                                          refine wp_if rfl H (fun H => ?_) (fun H => ?_)
                                          · refine lwp_list ?_
                                            refine ls_p (d := some 181) (by kernel_rfl) (by kernel_rfl) (p_off Try.underlying23 rfl (fun w => ⟨_, Try.sizeOf3 w⟩) rfl (by kernel_rfl) H) (fun x181 H => ?_)
                                            refine ls_d (d := none) (by kernel_rfl) (by kernel_rfl) HA_31 (d_st Try.sizeOf3 (by kernel_rfl) (by kernel_rfl) H) (fun _ h_26 w_34 H HA_34 => ?_)
                                            refine ls_nil ?_
                                            refine block_normal ?_
                                            exact ⟨(fun i => ([x90, x14, x90, undef, undef, x95, x14, x95, undef, undef, x100, x14, x100, undef, x105, x14, x104, x105, undef, undef, undef, undef, undef, undef, x114, x14, x114, undef, undef, undef, undef, undef, x126, x14, x122, x122, (D_3 0), (D_3 1), x126, undef, undef, undef, undef, undef, undef, undef, x140, x14, x136, x136] ++ [(D_4 0), (D_4 1), x140, undef, undef, undef, x150, x14, x146, x146, (D_5 0), (D_5 1), x150, undef, undef, undef, x160, x14, x156, x156, (D_6 0), (D_6 1), x160, undef, undef, undef, x170, x14, x166, x166, (D_7 0), (D_7 1), x170, undef, undef, undef, x176, x14, x176, undef, x180, x14, x180, x181]).getD i undef), h_26, by kernel_rfl, HA_34, H⟩
                                          · refine wp_skip ?_
                                            refine block_normal ?_
                                            exact ⟨(fun i => ([x90, x14, x90, undef, undef, x95, x14, x95, undef, undef, x100, x14, x100, undef, x105, x14, x104, x105, undef, undef, undef, undef, undef, undef, x114, x14, x114, undef, undef, undef, undef, undef, x126, x14, x122, x122, (D_3 0), (D_3 1), x126, undef, undef, undef, undef, undef, undef, undef, x140, x14, x136, x136] ++ [(D_4 0), (D_4 1), x140, undef, undef, undef, x150, x14, x146, x146, (D_5 0), (D_5 1), x150, undef, undef, undef, x160, x14, x156, x156, (D_6 0), (D_6 1), x160, undef, undef, undef, x170, x14, x166, x166, (D_7 0), (D_7 1), x170, undef, undef, undef, x176, x14, x176, undef, x180, x14, x180, undef]).getD i undef), h_11, by kernel_rfl, HA_31, H⟩
        · rintro _ w_5 ⟨D_2, h_4, rfl, HA_5, H⟩
          unfold betonyref05_Apply_j2 at H
          refine then_normal ?_
          refine fr_eq (b := ⟨([x0, x1, x2, undef, x4, x14, x6, x7, x1, x9, x10, undef, x1, x13, x14, x1, x16, x14, x18, x18, (D 0), (D 1), x22, (D_1 0), (D_1 1), (D_1 2), (D_1 3), (D_1 4), (D_1 5), (D_1 6), (D_1 7), (D_1 8), (D_1 9), (D_1 10), (D_1 11), (D_1 12), (D_1 13), (D_1 14), (D_1 15), (D_1 16), (D_1 17), (D_1 18), (D_1 19), (D_1 20), (D_1 21), (D_1 22), (D_1 23), (D_1 24), (D_1 25), (D_1 26)] ++ [(D_1 27), (D_1 28), (D_1 29), (D_1 30), (D_1 31), (D_1 32), (D_1 33), (D_1 34), (D_1 35), (D_1 36), (D_1 37), (D_1 38), (D_1 39), (D_1 40), (D_1 41), (D_1 42), (D_1 43), (D_1 44), (D_1 45), (D_1 46), (D_1 47), (D_1 48), (D_1 49), (D_1 50), (D_1 51), (D_1 52), (D_1 53), (D_1 54), (D_1 55), (D_1 56), (D_1 57), (D_1 58), (D_1 59), (D_1 60), (D_1 61), (D_1 62), (D_1 63), (D_1 64), (D_2 0), (D_2 1), (D_2 2), (D_2 3), (D_2 4), (D_2 5), (D_2 6), (D_2 7), (D_2 8), (D_2 9), (D_2 10), (D_2 11)] ++ [(D_2 12), (D_2 13), (D_2 14), (D_2 15), (D_2 16), (D_2 17), (D_2 18), (D_2 19), (D_2 20), (D_2 21), (D_2 22), (D_2 23), (D_2 24), (D_2 25), (D_2 26), (D_2 27), (D_2 28), (D_2 29), (D_2 30), (D_2 31), (D_2 32), (D_2 33), (D_2 34), (D_2 35), (D_2 36), (D_2 37), (D_2 38), (D_2 39), (D_2 40), (D_2 41), (D_2 42), (D_2 43), (D_2 44), (D_2 45), (D_2 46), (D_2 47), (D_2 48), (D_2 49), (D_2 50), (D_2 51), (D_2 52), (D_2 53), (D_2 54), (D_2 55), (D_2 56), (D_2 57), (D_2 58), (D_2 59), (D_2 60), (D_2 61)] ++ [(D_2 62), (D_2 63), (D_2 64), (D_2 65), (D_2 66), (D_2 67), (D_2 68), (D_2 69), (D_2 70), (D_2 71), (D_2 72), (D_2 73), (D_2 74), (D_2 75), (D_2 76), (D_2 77), (D_2 78), (D_2 79), (D_2 80), (D_2 81), (D_2 82), (D_2 83), (D_2 84), (D_2 85), (D_2 86), (D_2 87), (D_2 88), (D_2 89), (D_2 90), (D_2 91), (D_2 92), (D_2 93), undef, undef, undef, undef, undef, undef, undef]).toArray, []⟩) (by kernel_rfl) ?_
          refine wp_seq ?_
          refine wp_seq ?_
          refine lwp_list ?_
          refine ls_move (x := x6) (by kernel_rfl) (by kernel_rfl) ?_
          refine ls_p (d := some 183) (by kernel_rfl) (by kernel_rfl) (p_len Try.underlying24 (by kernel_rfl) H) (fun x183 H => ?_)
          refine ls_p (d := some 184) (by kernel_rfl) (by kernel_rfl) (p_sEq (by kernel_rfl) (by kernel_rfl) H) (fun x184 H => ?_)
          refine ls_nil ?_
          refine then_normal ?_
          refine fr_eq (b := ⟨([x0, x1, x2, undef, x4, x14, x6, x7, x1, x9, x10, undef, x1, x13, x14, x1, x16, x14, x18, x18, (D 0), (D 1), x22, (D_1 0), (D_1 1), (D_1 2), (D_1 3), (D_1 4), (D_1 5), (D_1 6), (D_1 7), (D_1 8), (D_1 9), (D_1 10), (D_1 11), (D_1 12), (D_1 13), (D_1 14), (D_1 15), (D_1 16), (D_1 17), (D_1 18), (D_1 19), (D_1 20), (D_1 21), (D_1 22), (D_1 23), (D_1 24), (D_1 25), (D_1 26)] ++ [(D_1 27), (D_1 28), (D_1 29), (D_1 30), (D_1 31), (D_1 32), (D_1 33), (D_1 34), (D_1 35), (D_1 36), (D_1 37), (D_1 38), (D_1 39), (D_1 40), (D_1 41), (D_1 42), (D_1 43), (D_1 44), (D_1 45), (D_1 46), (D_1 47), (D_1 48), (D_1 49), (D_1 50), (D_1 51), (D_1 52), (D_1 53), (D_1 54), (D_1 55), (D_1 56), (D_1 57), (D_1 58), (D_1 59), (D_1 60), (D_1 61), (D_1 62), (D_1 63), (D_1 64), (D_2 0), (D_2 1), (D_2 2), (D_2 3), (D_2 4), (D_2 5), (D_2 6), (D_2 7), (D_2 8), (D_2 9), (D_2 10), (D_2 11)] ++ [(D_2 12), (D_2 13), (D_2 14), (D_2 15), (D_2 16), (D_2 17), (D_2 18), (D_2 19), (D_2 20), (D_2 21), (D_2 22), (D_2 23), (D_2 24), (D_2 25), (D_2 26), (D_2 27), (D_2 28), (D_2 29), (D_2 30), (D_2 31), (D_2 32), (D_2 33), (D_2 34), (D_2 35), (D_2 36), (D_2 37), (D_2 38), (D_2 39), (D_2 40), (D_2 41), (D_2 42), (D_2 43), (D_2 44), (D_2 45), (D_2 46), (D_2 47), (D_2 48), (D_2 49), (D_2 50), (D_2 51), (D_2 52), (D_2 53), (D_2 54), (D_2 55), (D_2 56), (D_2 57), (D_2 58), (D_2 59), (D_2 60), (D_2 61)] ++ [(D_2 62), (D_2 63), (D_2 64), (D_2 65), (D_2 66), (D_2 67), (D_2 68), (D_2 69), (D_2 70), (D_2 71), (D_2 72), (D_2 73), (D_2 74), (D_2 75), (D_2 76), (D_2 77), (D_2 78), (D_2 79), (D_2 80), (D_2 81), (D_2 82), (D_2 83), (D_2 84), (D_2 85), (D_2 86), (D_2 87), (D_2 88), (D_2 89), (D_2 90), (D_2 91), (D_2 92), (D_2 93), x6, x183, x184, undef, undef, undef, undef]).toArray, []⟩) (by kernel_rfl) ?_
          refine wp_if rfl H (fun H => ?_) (fun H => ?_)
          · refine wp_seq ?_
            refine lwp_list ?_
            refine ls_y (d := some 185) (by kernel_rfl) (by kernel_rfl) HA_5 (y_ldn Try.isAgg23 Try.sizeOf23 (by kernel_rfl) H) (fun x185 H => ?_)
            refine ls_d (d := none) (by kernel_rfl) (by kernel_rfl) HA_5 (d_stn Try.sizeOf23 (by kernel_rfl) (by kernel_rfl) H) (fun _ h_5 w_6 H HA_6 => ?_)
            refine ls_nil ?_
            refine then_normal ?_
            refine fr_eq (b := ⟨([x0, x1, x2, undef, x4, x14, x6, x7, x1, x9, x10, undef, x1, x13, x14, x1, x16, x14, x18, x18, (D 0), (D 1), x22, (D_1 0), (D_1 1), (D_1 2), (D_1 3), (D_1 4), (D_1 5), (D_1 6), (D_1 7), (D_1 8), (D_1 9), (D_1 10), (D_1 11), (D_1 12), (D_1 13), (D_1 14), (D_1 15), (D_1 16), (D_1 17), (D_1 18), (D_1 19), (D_1 20), (D_1 21), (D_1 22), (D_1 23), (D_1 24), (D_1 25), (D_1 26)] ++ [(D_1 27), (D_1 28), (D_1 29), (D_1 30), (D_1 31), (D_1 32), (D_1 33), (D_1 34), (D_1 35), (D_1 36), (D_1 37), (D_1 38), (D_1 39), (D_1 40), (D_1 41), (D_1 42), (D_1 43), (D_1 44), (D_1 45), (D_1 46), (D_1 47), (D_1 48), (D_1 49), (D_1 50), (D_1 51), (D_1 52), (D_1 53), (D_1 54), (D_1 55), (D_1 56), (D_1 57), (D_1 58), (D_1 59), (D_1 60), (D_1 61), (D_1 62), (D_1 63), (D_1 64), (D_2 0), (D_2 1), (D_2 2), (D_2 3), (D_2 4), (D_2 5), (D_2 6), (D_2 7), (D_2 8), (D_2 9), (D_2 10), (D_2 11)] ++ [(D_2 12), (D_2 13), (D_2 14), (D_2 15), (D_2 16), (D_2 17), (D_2 18), (D_2 19), (D_2 20), (D_2 21), (D_2 22), (D_2 23), (D_2 24), (D_2 25), (D_2 26), (D_2 27), (D_2 28), (D_2 29), (D_2 30), (D_2 31), (D_2 32), (D_2 33), (D_2 34), (D_2 35), (D_2 36), (D_2 37), (D_2 38), (D_2 39), (D_2 40), (D_2 41), (D_2 42), (D_2 43), (D_2 44), (D_2 45), (D_2 46), (D_2 47), (D_2 48), (D_2 49), (D_2 50), (D_2 51), (D_2 52), (D_2 53), (D_2 54), (D_2 55), (D_2 56), (D_2 57), (D_2 58), (D_2 59), (D_2 60), (D_2 61)] ++ [(D_2 62), (D_2 63), (D_2 64), (D_2 65), (D_2 66), (D_2 67), (D_2 68), (D_2 69), (D_2 70), (D_2 71), (D_2 72), (D_2 73), (D_2 74), (D_2 75), (D_2 76), (D_2 77), (D_2 78), (D_2 79), (D_2 80), (D_2 81), (D_2 82), (D_2 83), (D_2 84), (D_2 85), (D_2 86), (D_2 87), (D_2 88), (D_2 89), (D_2 90), (D_2 91), (D_2 92), (D_2 93), x6, x183, x184, x185, undef, undef, undef]).toArray, []⟩) (by kernel_rfl) ?_
            refine wp_ret ?_
            refine then_ret ?_
            obtain ⟨r4_1, hr4_1, H⟩ := ld_n Try.isAgg23 Try.sizeOf23 H
            exact endR (vs := [r4_1]) (Try.results42) (by kernel_rfl) ⟨⟨_, (by kernel_rfl), hr4_1⟩, trivial⟩ HA_6 H _ (.inr rfl)
          · refine wp_skip ?_
            refine then_normal ?_
            refine fr_eq (b := ⟨([x0, x1, x2, undef, x4, x14, x6, x7, x1, x9, x10, undef, x1, x13, x14, x1, x16, x14, x18, x18, (D 0), (D 1), x22, (D_1 0), (D_1 1), (D_1 2), (D_1 3), (D_1 4), (D_1 5), (D_1 6), (D_1 7), (D_1 8), (D_1 9), (D_1 10), (D_1 11), (D_1 12), (D_1 13), (D_1 14), (D_1 15), (D_1 16), (D_1 17), (D_1 18), (D_1 19), (D_1 20), (D_1 21), (D_1 22), (D_1 23), (D_1 24), (D_1 25), (D_1 26)] ++ [(D_1 27), (D_1 28), (D_1 29), (D_1 30), (D_1 31), (D_1 32), (D_1 33), (D_1 34), (D_1 35), (D_1 36), (D_1 37), (D_1 38), (D_1 39), (D_1 40), (D_1 41), (D_1 42), (D_1 43), (D_1 44), (D_1 45), (D_1 46), (D_1 47), (D_1 48), (D_1 49), (D_1 50), (D_1 51), (D_1 52), (D_1 53), (D_1 54), (D_1 55), (D_1 56), (D_1 57), (D_1 58), (D_1 59), (D_1 60), (D_1 61), (D_1 62), (D_1 63), (D_1 64), (D_2 0), (D_2 1), (D_2 2), (D_2 3), (D_2 4), (D_2 5), (D_2 6), (D_2 7), (D_2 8), (D_2 9), (D_2 10), (D_2 11)] ++ [(D_2 12), (D_2 13), (D_2 14), (D_2 15), (D_2 16), (D_2 17), (D_2 18), (D_2 19), (D_2 20), (D_2 21), (D_2 22), (D_2 23), (D_2 24), (D_2 25), (D_2 26), (D_2 27), (D_2 28), (D_2 29), (D_2 30), (D_2 31), (D_2 32), (D_2 33), (D_2 34), (D_2 35), (D_2 36), (D_2 37), (D_2 38), (D_2 39), (D_2 40), (D_2 41), (D_2 42), (D_2 43), (D_2 44), (D_2 45), (D_2 46), (D_2 47), (D_2 48), (D_2 49), (D_2 50), (D_2 51), (D_2 52), (D_2 53), (D_2 54), (D_2 55), (D_2 56), (D_2 57), (D_2 58), (D_2 59), (D_2 60), (D_2 61)] ++ [(D_2 62), (D_2 63), (D_2 64), (D_2 65), (D_2 66), (D_2 67), (D_2 68), (D_2 69), (D_2 70), (D_2 71), (D_2 72), (D_2 73), (D_2 74), (D_2 75), (D_2 76), (D_2 77), (D_2 78), (D_2 79), (D_2 80), (D_2 81), (D_2 82), (D_2 83), (D_2 84), (D_2 85), (D_2 86), (D_2 87), (D_2 88), (D_2 89), (D_2 90), (D_2 91), (D_2 92), (D_2 93), x6, x183, x184, undef, undef, undef, undef]).toArray, []⟩) (by kernel_rfl) ?_
            refine wp_seq ?_
            refine lwp_list ?_
            refine ls_y (d := some 186) (by kernel_rfl) (by kernel_rfl) HA_5 (y_ldn Try.isAgg23 Try.sizeOf23 (by kernel_rfl) H) (fun x186 H => ?_)
            refine ls_move (x := x6) (by kernel_rfl) (by kernel_rfl) ?_
            refine ls_d (d := some 188) (by kernel_rfl) (by kernel_rfl) HA_5 (d_call (by kernel_rfl) (by kernel_rfl) H) (fun x188 h_6 w_7 H HA_7 => ?_)
            refine ls_d (d := none) (by kernel_rfl) (by kernel_rfl) HA_7 (d_stn Try.sizeOf23 (by kernel_rfl) (by kernel_rfl) H) (fun _ h_7 w_8 H HA_8 => ?_)
            refine ls_nil ?_
            refine then_normal ?_
            refine fr_eq (b := ⟨([x0, x1, x2, undef, x4, x14, x6, x7, x1, x9, x10, undef, x1, x13, x14, x1, x16, x14, x18, x18, (D 0), (D 1), x22, (D_1 0), (D_1 1), (D_1 2), (D_1 3), (D_1 4), (D_1 5), (D_1 6), (D_1 7), (D_1 8), (D_1 9), (D_1 10), (D_1 11), (D_1 12), (D_1 13), (D_1 14), (D_1 15), (D_1 16), (D_1 17), (D_1 18), (D_1 19), (D_1 20), (D_1 21), (D_1 22), (D_1 23), (D_1 24), (D_1 25), (D_1 26)] ++ [(D_1 27), (D_1 28), (D_1 29), (D_1 30), (D_1 31), (D_1 32), (D_1 33), (D_1 34), (D_1 35), (D_1 36), (D_1 37), (D_1 38), (D_1 39), (D_1 40), (D_1 41), (D_1 42), (D_1 43), (D_1 44), (D_1 45), (D_1 46), (D_1 47), (D_1 48), (D_1 49), (D_1 50), (D_1 51), (D_1 52), (D_1 53), (D_1 54), (D_1 55), (D_1 56), (D_1 57), (D_1 58), (D_1 59), (D_1 60), (D_1 61), (D_1 62), (D_1 63), (D_1 64), (D_2 0), (D_2 1), (D_2 2), (D_2 3), (D_2 4), (D_2 5), (D_2 6), (D_2 7), (D_2 8), (D_2 9), (D_2 10), (D_2 11)] ++ [(D_2 12), (D_2 13), (D_2 14), (D_2 15), (D_2 16), (D_2 17), (D_2 18), (D_2 19), (D_2 20), (D_2 21), (D_2 22), (D_2 23), (D_2 24), (D_2 25), (D_2 26), (D_2 27), (D_2 28), (D_2 29), (D_2 30), (D_2 31), (D_2 32), (D_2 33), (D_2 34), (D_2 35), (D_2 36), (D_2 37), (D_2 38), (D_2 39), (D_2 40), (D_2 41), (D_2 42), (D_2 43), (D_2 44), (D_2 45), (D_2 46), (D_2 47), (D_2 48), (D_2 49), (D_2 50), (D_2 51), (D_2 52), (D_2 53), (D_2 54), (D_2 55), (D_2 56), (D_2 57), (D_2 58), (D_2 59), (D_2 60), (D_2 61)] ++ [(D_2 62), (D_2 63), (D_2 64), (D_2 65), (D_2 66), (D_2 67), (D_2 68), (D_2 69), (D_2 70), (D_2 71), (D_2 72), (D_2 73), (D_2 74), (D_2 75), (D_2 76), (D_2 77), (D_2 78), (D_2 79), (D_2 80), (D_2 81), (D_2 82), (D_2 83), (D_2 84), (D_2 85), (D_2 86), (D_2 87), (D_2 88), (D_2 89), (D_2 90), (D_2 91), (D_2 92), (D_2 93), x6, x183, x184, undef, x186, x6, x188]).toArray, []⟩) (by kernel_rfl) ?_
            refine wp_ret ?_
            obtain ⟨r4_2, hr4_2, H⟩ := ld_n Try.isAgg23 Try.sizeOf23 H
            exact endR (vs := [r4_2]) (Try.results42) (by kernel_rfl) ⟨⟨_, (by kernel_rfl), hr4_2⟩, trivial⟩ HA_8 H _ (.inr rfl)

end Go.Proofs.Ytkagmlpnidijaaa
