/- The shallow reading of one function, and that the function does it. Written by a program. -/
import Derived.Test.YthhpieidlpjbmaaFnC
set_option linter.unusedVariables false
namespace Go.Proofs.Ythhpieidlpjbmaa
open Go Go.HW

def betonyref06_Grid_Fill_j4 (next1 : Value → Value → Heap → Prop) (x11 x9_2 : Value) (h_8 : Heap) : Prop :=
  sAdd .i64 x11 (.int .i64 1) fun x36 =>
  next1 x9_2 x36 h_8
def betonyref06_Grid_Fill_l3 (next : Value → Value → Heap → Prop) (x3 x4 x5 x8 x10 : Value) (next1 : Value → Value → Heap → Prop) (x9_1 x11 : Value) (h_7 : Heap) : Prop :=
  sOff x3 0 fun x32 =>
  sLd h_7 x32 fun x33 =>
  sLt x11 x33 fun x34 =>
  sIf x34 (sLdN h_7 x4 4 fun x37 =>
  betonyref04_In_c x37 x11 x10 h_7 fun x40 h_9 => 
  sIf x40 (sOff x8 2 fun x41 =>
  sLd h_9 x41 fun x42 =>
  sOff x3 0 fun x44 =>
  sLd h_9 x44 fun x45 =>
  sMul .i64 x10 x45 fun x46 =>
  sAdd .i64 x46 x11 fun x48 =>
  sLdN h_9 x5 4 fun x49 =>
  sIxS x42 x48 4 fun x50 =>
  sStN h_9 x50 x49 4 fun h_10 => 
  sAdd .i64 x9_1 (.int .i64 1) fun x52 =>
  betonyref06_Grid_Fill_j4 next1 x11 x52 h_10) (betonyref06_Grid_Fill_j4 next1 x11 x9_1 h_9)) (sAdd .i64 x10 (.int .i64 1) fun x30 =>
  next x9_1 x30 h_7)
def betonyref06_Grid_Fill_l2 (R : Value → Heap → Prop) (x3 x4 x5 x6 x8 : Value) (next : Value → Value → Heap → Prop) (x9 x10 : Value) (h_5 : Heap) : Prop :=
  sOff x3 1 fun x22 =>
  sLd h_5 x22 fun x23 =>
  sLt x10 x23 fun x24 =>
  sAndH x24 h_5 (fun k =>
  sLdN h_5 x4 4 fun x26 =>
  betonyref04_Right_c x26 h_5 fun x27 h_12 => 
  k x27 h_12) fun x28 h_6 =>
  sIf x28 (sLoop (S := Value × Value) (fun nxt s h => betonyref06_Grid_Fill_l3 next x3 x4 x5 x8 x10 (fun x9_1' x11' h => nxt (x9_1', x11') h) s.1 s.2 h) (x9, (.int .i64 0)) h_6) (sLdN h_6 x8 3 fun x53 =>
  sStN h_6 x6 x53 3 fun h_11 => 
  sLdN h_11 x6 3 fun r6 =>
  R (.tuple #[r6, x9]) h_11)
def betonyref06_Grid_Fill_j1 (R : Value → Heap → Prop) (x3 x4 x5 x6 x8 : Value) (h_4 : Heap) : Prop :=
  sLoop (S := Value × Value) (fun nxt s h => betonyref06_Grid_Fill_l2 R x3 x4 x5 x6 x8 (fun x9' x10' h => nxt (x9', x10') h) s.1 s.2 h) ((.int .i64 0), (.int .i64 0)) h_4
def betonyref06_Grid_Fill_S (x0 x1 x2 : Value) (h : Heap) (R : Value → Heap → Prop) : Prop :=
  sBox h x0 37 fun x3 h => 
  sBox h x1 23 fun x4 h_1 => 
  sBox h_1 x2 27 fun x5 h_2 => 
  sNew h_2 #[.int .i64 0, .int .i64 0, .slice none 0 0] 37 fun x6 h_3 => 
  ∃ C : Heap → Prop, C h_3 ∧ (sOff x3 0 fun x12 =>
  sLdC C x12 fun x13 =>
  sOff x3 1 fun x14 =>
  sLdC C x14 fun x15 =>
  sOff x3 2 fun x17 =>
  sLdC C x17 fun x18 =>
  (sSlit h_3 #[] [] 27 0 fun x16 h_13 => C h_13 ∧ (
  (sApp h_13 x16 x18 #[.int .i32 0, .int .i64 0, .int .i64 0, .int .i64 0] 27 32 fun x19 h_14 => C h_14 ∧ (
  sBuild #[.int .i64 0, .int .i64 0, .slice none 0 0] [(0, 1, x13), (1, 1, x15), (2, 1, x19)] fun x20 =>
  sNew h_14 #[.int .i64 0, .int .i64 0, .slice none 0 0] 37 fun x8_1 h_15 => C h_15 ∧ (
  sStN h_15 x8_1 x20 3 fun h_16 => 
  betonyref06_Grid_Fill_j1 R x3 x4 x5 x6 x8_1 h_16))) ∧
  (sNew h_13 #[.int .i64 0, .int .i64 0, .slice none 0 0] 37 fun x8_2 h_17 => C h_17 ∧ (
  sApp h_17 x16 x18 #[.int .i32 0, .int .i64 0, .int .i64 0, .int .i64 0] 27 32 fun x19_1 h_18 => C h_18 ∧ (
  sBuild #[.int .i64 0, .int .i64 0, .slice none 0 0] [(0, 1, x13), (1, 1, x15), (2, 1, x19_1)] fun x20_1 =>
  sStN h_18 x8_2 x20_1 3 fun h_19 => 
  betonyref06_Grid_Fill_j1 R x3 x4 x5 x6 x8_2 h_19))))) ∧
  (sNew h_3 #[.int .i64 0, .int .i64 0, .slice none 0 0] 37 fun x8_3 h_20 => C h_20 ∧ (
  sSlit h_20 #[] [] 27 0 fun x16_1 h_21 => C h_21 ∧ (
  sApp h_21 x16_1 x18 #[.int .i32 0, .int .i64 0, .int .i64 0, .int .i64 0] 27 32 fun x19_2 h_22 => C h_22 ∧ (
  sBuild #[.int .i64 0, .int .i64 0, .slice none 0 0] [(0, 1, x13), (1, 1, x15), (2, 1, x19_2)] fun x20_2 =>
  sStN h_22 x8_3 x20_2 3 fun h_23 => 
  betonyref06_Grid_Fill_j1 R x3 x4 x5 x6 x8_3 h_23)))))
set_option maxRecDepth 100000 in
theorem betonyref06_Grid_Fill_runs {x0 x1 x2 : Value} {h : Heap} {R : Value → Heap → Prop} (H : betonyref06_Grid_Fill_S x0 x1 x2 h R) : betonyref06_Grid_Fill_c x0 x1 x2 h R := by
  unfold betonyref06_Grid_Fill_S at H
  refine runs_of (b := ⟨#[x0, x1, x2, undef, undef, undef, undef, undef, undef, undef, undef, undef, undef, undef, undef, undef, undef, undef, undef, undef, undef, undef, undef, undef, undef, undef, undef, undef, undef, undef, undef, undef, undef, undef, undef, undef, undef, undef, undef, undef, undef, undef, undef, undef, undef, undef, undef, undef, undef, undef, undef, undef, undef, undef, undef], []⟩) Try.call19 Try.func19 rfl (by kernel_rfl) (fun w0 HA => ?_)
  refine wp_seq ?_
  refine lwp_list ?_
  refine ls_d (d := some 3) (by kernel_rfl) (by kernel_rfl) HA (d_box (by kernel_rfl) H) (fun x3 h w H HA => ?_)
  refine ls_d (d := some 4) (by kernel_rfl) (by kernel_rfl) HA (d_box (by kernel_rfl) H) (fun x4 h_1 w_1 H HA_1 => ?_)
  refine ls_d (d := some 5) (by kernel_rfl) (by kernel_rfl) HA_1 (d_box (by kernel_rfl) H) (fun x5 h_2 w_2 H HA_2 => ?_)
  refine ls_d (d := some 6) (by kernel_rfl) (by kernel_rfl) HA_2 (d_alloc Try.zeroValue37 H) (fun x6 h_3 w_3 H HA_3 => ?_)
  refine ls_assign (x := (.int .i64 0)) (by kernel_rfl) (by kernel_rfl) ?_
  refine ls_nil ?_
  refine then_normal ?_
  refine fr_eq (b := ⟨#[x0, x1, x2, x3, x4, x5, x6, (.int .i64 0), undef, undef, undef, undef, undef, undef, undef, undef, undef, undef, undef, undef, undef, undef, undef, undef, undef, undef, undef, undef, undef, undef, undef, undef, undef, undef, undef, undef, undef, undef, undef, undef, undef, undef, undef, undef, undef, undef, undef, undef, undef, undef, undef, undef, undef, undef, undef], []⟩) (by kernel_rfl) ?_
  refine wp_seq ?_
  refine wp_join (fun a w => ∃ (D : Nat → Value) (x8 : Value) (h_4 : Heap), a = ⟨#[x0, x1, x2, x3, x4, x5, x6, (.int .i64 0), x8, undef, undef, undef, (D 0), (D 1), (D 2), (D 3), (D 4), (D 5), (D 6), (D 7), (D 8), undef, undef, undef, undef, undef, undef, undef, undef, undef, undef, undef, undef, undef, undef, undef, undef, undef, undef, undef, undef, undef, undef, undef, undef, undef, undef, undef, undef, undef, undef, undef, undef, undef, undef], []⟩ ∧ At w0 w h_4 ∧ betonyref06_Grid_Fill_j1 R x3 x4 x5 x6 x8 h_4) ?_ ?_
  · obtain ⟨C, HC, H⟩ := H
    refine lwp_pl (Nat.testBit 1680) (Nat.testBit 656) (Nat.testBit 293) [0, 1, 0, 4, 0, 0, 32, 112, 255, 0, 1023] (Nat.testBit 0) C (.op 0 (.op 1 (.op 2 (.op 3 (.op 5 (.op 6 (.alt (.op 4 (.alt (.op 7 (.op 8 (.op 9 (.op 10 .done)))) (.op 9 (.op 7 (.op 8 (.op 10 .done)))))) (.op 9 (.op 4 (.op 7 (.op 8 (.op 10 .done)))))))))))) (by kernel_rfl) (by kernel_rfl) (by kernel_rfl) HA_3 HC ?_
    intro w_13 HA_13
    refine lp_p (d := some 12) (by kernel_rfl) rfl (by kernel_rfl) (by kernel_rfl) (p_off Try.underlying37 rfl (fun w => ⟨_, Try.sizeOf3 w⟩) rfl (by kernel_rfl) H) (fun x12 H => ?_)
    refine lp_f (d := some 13) (by kernel_rfl) rfl (by kernel_rfl) (by kernel_rfl) (by kernel_rfl) (by kernel_rfl) (c_ld Try.isAgg3 (by kernel_rfl) H) (fun x13 H => ?_)
    refine lp_p (d := some 14) (by kernel_rfl) rfl (by kernel_rfl) (by kernel_rfl) (p_off Try.underlying37 rfl (fun w => ⟨_, Try.sizeOf3 w⟩) rfl (by kernel_rfl) H) (fun x14 H => ?_)
    refine lp_f (d := some 15) (by kernel_rfl) rfl (by kernel_rfl) (by kernel_rfl) (by kernel_rfl) (by kernel_rfl) (c_ld Try.isAgg3 (by kernel_rfl) H) (fun x15 H => ?_)
    refine lp_p (d := some 17) (by kernel_rfl) rfl (by kernel_rfl) (by kernel_rfl) (p_off Try.underlying37 rfl (fun w => ⟨_, Try.sizeOf35 w⟩) rfl (by kernel_rfl) H) (fun x17 H => ?_)
    refine lp_f (d := some 18) (by kernel_rfl) rfl (by kernel_rfl) (by kernel_rfl) (by kernel_rfl) (by kernel_rfl) (c_ld Try.isAgg35 (by kernel_rfl) H) (fun x18 H => ?_)
    refine lp_fr (b := ⟨#[x0, x1, x2, x3, x4, x5, x6, (.int .i64 0), undef, undef, undef, undef, x12, x13, x14, x15, undef, x17, x18, undef, undef, undef, undef, undef, undef, undef, undef, undef, undef, undef, undef, undef, undef, undef, undef, undef, undef, undef, undef, undef, undef, undef, undef, undef, undef, undef, undef, undef, undef, undef, undef, undef, undef, undef, undef], []⟩) (by kernel_rfl) ?_
    obtain ⟨Ha, Hb⟩ := H
    refine lp_alt ?_ ?_
    · have H := Ha
      clear Ha Hb
      refine lp_dc (d := some 16) (by kernel_rfl) rfl (by kernel_rfl) (by kernel_rfl) (by kernel_rfl) HA_13 (d_slit (zc := #[]) Try.underlying35 Try.sizeOf27 (by decide) (.inl ⟨(by kernel_rfl), (by kernel_rfl)⟩) (by kernel_rfl) (by kernel_rfl) H) (fun x16 h_13 w_14 H HA_14 => ?_)
      obtain ⟨Ha, Hb⟩ := H
      refine lp_alt ?_ ?_
      · have H := Ha
        clear Ha Hb
        refine lp_dc (d := some 19) (by kernel_rfl) rfl (by kernel_rfl) (by kernel_rfl) (by kernel_rfl) HA_14 (d_app (z := #[.int .i32 0, .int .i64 0, .int .i64 0, .int .i64 0]) Try.underlying35 Try.underlying35 (.inl ⟨_, rfl⟩) Try.typeInfo27 (by kernel_rfl) Try.sizeOf27 Try.zeroValue27 (by kernel_rfl) (by kernel_rfl) (by kernel_rfl) H) (fun x19 h_14 w_15 H HA_15 => ?_)
        refine lp_p (d := some 20) (by kernel_rfl) rfl (by kernel_rfl) (by kernel_rfl) (p_lit (pl := [(0, 1), (1, 1), (2, 1)]) Try.zeroValue37 Try.underlying37 ⟨(by kernel_rfl), Try.sizeOf3, (by kernel_rfl), Try.sizeOf3, (by kernel_rfl), Try.sizeOf35, trivial⟩ (by kernel_rfl) (by kernel_rfl) H) (fun x20 H => ?_)
        refine lp_dc (d := some 8) (by kernel_rfl) rfl (by kernel_rfl) (by kernel_rfl) (by kernel_rfl) HA_15 (d_alloc Try.zeroValue37 H) (fun x8_1 h_15 w_16 H HA_16 => ?_)
        refine lp_d (d := none) (by kernel_rfl) rfl (by kernel_rfl) (by kernel_rfl) (by kernel_rfl) HA_16 (d_stn Try.sizeOf37 (by kernel_rfl) (by kernel_rfl) H) (fun _ h_16 w_17 H HA_17 => ?_)
        refine lp_nil ?_
        exact ⟨(fun i => ([x12, x13, x14, x15, x16, x17, x18, x19, x20]).getD i undef), x8_1, h_16, by kernel_rfl, HA_17, H⟩
      · have H := Hb
        clear Ha Hb
        refine lp_dc (d := some 8) (by kernel_rfl) rfl (by kernel_rfl) (by kernel_rfl) (by kernel_rfl) HA_14 (d_alloc Try.zeroValue37 H) (fun x8_2 h_17 w_18 H HA_18 => ?_)
        refine lp_dc (d := some 19) (by kernel_rfl) rfl (by kernel_rfl) (by kernel_rfl) (by kernel_rfl) HA_18 (d_app (z := #[.int .i32 0, .int .i64 0, .int .i64 0, .int .i64 0]) Try.underlying35 Try.underlying35 (.inl ⟨_, rfl⟩) Try.typeInfo27 (by kernel_rfl) Try.sizeOf27 Try.zeroValue27 (by kernel_rfl) (by kernel_rfl) (by kernel_rfl) H) (fun x19_1 h_18 w_19 H HA_19 => ?_)
        refine lp_p (d := some 20) (by kernel_rfl) rfl (by kernel_rfl) (by kernel_rfl) (p_lit (pl := [(0, 1), (1, 1), (2, 1)]) Try.zeroValue37 Try.underlying37 ⟨(by kernel_rfl), Try.sizeOf3, (by kernel_rfl), Try.sizeOf3, (by kernel_rfl), Try.sizeOf35, trivial⟩ (by kernel_rfl) (by kernel_rfl) H) (fun x20_1 H => ?_)
        refine lp_d (d := none) (by kernel_rfl) rfl (by kernel_rfl) (by kernel_rfl) (by kernel_rfl) HA_19 (d_stn Try.sizeOf37 (by kernel_rfl) (by kernel_rfl) H) (fun _ h_19 w_20 H HA_20 => ?_)
        refine lp_nil ?_
        exact ⟨(fun i => ([x12, x13, x14, x15, x16, x17, x18, x19_1, x20_1]).getD i undef), x8_2, h_19, by kernel_rfl, HA_20, H⟩
    · have H := Hb
      clear Ha Hb
      refine lp_dc (d := some 8) (by kernel_rfl) rfl (by kernel_rfl) (by kernel_rfl) (by kernel_rfl) HA_13 (d_alloc Try.zeroValue37 H) (fun x8_3 h_20 w_21 H HA_21 => ?_)
      refine lp_dc (d := some 16) (by kernel_rfl) rfl (by kernel_rfl) (by kernel_rfl) (by kernel_rfl) HA_21 (d_slit (zc := #[]) Try.underlying35 Try.sizeOf27 (by decide) (.inl ⟨(by kernel_rfl), (by kernel_rfl)⟩) (by kernel_rfl) (by kernel_rfl) H) (fun x16_1 h_21 w_22 H HA_22 => ?_)
      refine lp_dc (d := some 19) (by kernel_rfl) rfl (by kernel_rfl) (by kernel_rfl) (by kernel_rfl) HA_22 (d_app (z := #[.int .i32 0, .int .i64 0, .int .i64 0, .int .i64 0]) Try.underlying35 Try.underlying35 (.inl ⟨_, rfl⟩) Try.typeInfo27 (by kernel_rfl) Try.sizeOf27 Try.zeroValue27 (by kernel_rfl) (by kernel_rfl) (by kernel_rfl) H) (fun x19_2 h_22 w_23 H HA_23 => ?_)
      refine lp_p (d := some 20) (by kernel_rfl) rfl (by kernel_rfl) (by kernel_rfl) (p_lit (pl := [(0, 1), (1, 1), (2, 1)]) Try.zeroValue37 Try.underlying37 ⟨(by kernel_rfl), Try.sizeOf3, (by kernel_rfl), Try.sizeOf3, (by kernel_rfl), Try.sizeOf35, trivial⟩ (by kernel_rfl) (by kernel_rfl) H) (fun x20_2 H => ?_)
      refine lp_d (d := none) (by kernel_rfl) rfl (by kernel_rfl) (by kernel_rfl) (by kernel_rfl) HA_23 (d_stn Try.sizeOf37 (by kernel_rfl) (by kernel_rfl) H) (fun _ h_23 w_24 H HA_24 => ?_)
      refine lp_nil ?_
      exact ⟨(fun i => ([x12, x13, x14, x15, x16_1, x17, x18, x19_2, x20_2]).getD i undef), x8_3, h_23, by kernel_rfl, HA_24, H⟩
  · rintro _ w_4 ⟨D, x8, h_4, rfl, HA_4, H⟩
    unfold betonyref06_Grid_Fill_j1 at H
    refine then_normal ?_
    refine fr_eq (b := ⟨#[x0, x1, x2, x3, x4, x5, x6, (.int .i64 0), x8, undef, undef, undef, (D 0), (D 1), (D 2), (D 3), (D 4), (D 5), (D 6), (D 7), (D 8), undef, undef, undef, undef, undef, undef, undef, undef, undef, undef, undef, undef, undef, undef, undef, undef, undef, undef, undef, undef, undef, undef, undef, undef, undef, undef, undef, undef, undef, undef, undef, undef, undef, undef], []⟩) (by kernel_rfl) ?_
    refine wp_seq ?_
    refine lwp_list ?_
    refine ls_assign (x := (.int .i64 0)) (by kernel_rfl) (by kernel_rfl) ?_
    refine ls_nil ?_
    refine then_normal ?_
    refine fr_eq (b := ⟨#[x0, x1, x2, x3, x4, x5, x6, (.int .i64 0), x8, (.int .i64 0), undef, undef, (D 0), (D 1), (D 2), (D 3), (D 4), (D 5), (D 6), (D 7), (D 8), undef, undef, undef, undef, undef, undef, undef, undef, undef, undef, undef, undef, undef, undef, undef, undef, undef, undef, undef, undef, undef, undef, undef, undef, undef, undef, undef, undef, undef, undef, undef, undef, undef, undef], []⟩) (by kernel_rfl) ?_
    refine wp_seq ?_
    refine wp_seq ?_
    refine lwp_list ?_
    refine ls_assign (x := (.int .i64 0)) (by kernel_rfl) (by kernel_rfl) ?_
    refine ls_nil ?_
    refine then_normal ?_
    refine fr_eq (b := ⟨#[x0, x1, x2, x3, x4, x5, x6, (.int .i64 0), x8, (.int .i64 0), (.int .i64 0), undef, (D 0), (D 1), (D 2), (D 3), (D 4), (D 5), (D 6), (D 7), (D 8), undef, undef, undef, undef, undef, undef, undef, undef, undef, undef, undef, undef, undef, undef, undef, undef, undef, undef, undef, undef, undef, undef, undef, undef, undef, undef, undef, undef, undef, undef, undef, undef, undef, undef], []⟩) (by kernel_rfl) ?_
    refine wp_block ?_
    obtain ⟨I, m, H0, HB⟩ := H
    refine wp_loop (fun a w => ∃ (D_1 : Nat → Value) (x9 x10 : Value) (h_5 : Heap), a = ⟨#[x0, x1, x2, x3, x4, x5, x6, (.int .i64 0), x8, x9, x10, (D_1 0), (D 0), (D 1), (D 2), (D 3), (D 4), (D 5), (D 6), (D 7), (D 8), (D_1 1), (D_1 2), (D_1 3), (D_1 4), (D_1 5), (D_1 6), (D_1 7), (D_1 8), (D_1 9), (D_1 10), (D_1 11), (D_1 12), (D_1 13), (D_1 14), (D_1 15), (D_1 16), (D_1 17), (D_1 18), (D_1 19), (D_1 20), (D_1 21), (D_1 22), (D_1 23), (D_1 24), (D_1 25), (D_1 26), (D_1 27), (D_1 28), (D_1 29), (D_1 30), (D_1 31), (D_1 32), undef, undef], []⟩ ∧ At w0 w h_5 ∧ I (x9, x10) h_5) (fun a w => m ((a.tmps.getD 9 undef), (a.tmps.getD 10 undef)) w.heap) ?_ ?_
    · exact ⟨(fun i => ([undef, undef, undef, undef, undef, undef, undef, undef, undef, undef, undef, undef, undef, undef, undef, undef, undef, undef, undef, undef, undef, undef, undef, undef, undef, undef, undef, undef, undef, undef, undef, undef, undef]).getD i undef), (.int .i64 0), (.int .i64 0), h_4, by kernel_rfl, HA_4, H0⟩
    · rintro _ w_5 ⟨D_1, x9, x10, h_5, rfl, HA_5, HI⟩
      have H : betonyref06_Grid_Fill_l2 R x3 x4 x5 x6 x8 (fun x9' x10' h' => I (x9', x10') h' ∧ m (x9', x10') h' < m (x9, x10) h_5) x9 x10 h_5 := HB (x9, x10) h_5 HI
      clear HB H0 HI
      unfold betonyref06_Grid_Fill_l2 at H
      refine wp_seq ?_
      refine wp_seq ?_
      refine lwp_list ?_
      refine ls_move (x := x10) (by kernel_rfl) (by kernel_rfl) ?_
      refine ls_p (d := some 22) (by kernel_rfl) (by kernel_rfl) (p_off Try.underlying37 rfl (fun w => ⟨_, Try.sizeOf3 w⟩) rfl (by kernel_rfl) H) (fun x22 H => ?_)
      refine ls_y (d := some 23) (by kernel_rfl) (by kernel_rfl) HA_5 (y_ld Try.isAgg3 (by kernel_rfl) H) (fun x23 H => ?_)
      refine ls_p (d := some 24) (by kernel_rfl) (by kernel_rfl) (p_sLt (by kernel_rfl) (by kernel_rfl) H) (fun x24 H => ?_)
      refine ls_move (x := x24) (by kernel_rfl) (by kernel_rfl) ?_
      refine ls_andh [(), (), ()] (fun K a w => ∃ (D_2 : Nat → Value) (x28 : Value) (h_6 : Heap), a = ⟨#[x0, x1, x2, x3, x4, x5, x6, (.int .i64 0), x8, x9, x10, (D_1 0), (D 0), (D 1), (D 2), (D 3), (D 4), (D 5), (D 6), (D 7), (D 8), x10, x22, x23, x24, x24, (D_2 0), (D_2 1), x28, (D_1 9), (D_1 10), (D_1 11), (D_1 12), (D_1 13), (D_1 14), (D_1 15), (D_1 16), (D_1 17), (D_1 18), (D_1 19), (D_1 20), (D_1 21), (D_1 22), (D_1 23), (D_1 24), (D_1 25), (D_1 26), (D_1 27), (D_1 28), (D_1 29), (D_1 30), (D_1 31), (D_1 32), undef, undef], []⟩ ∧ At w0 w h_6 ∧ K x28 h_6) H (fun hb H => ?_) (fun hb H => ?_) ?_
      · refine ls_y (d := some 26) (by kernel_rfl) (by rw [hb]; kernel_rfl) HA_5 (y_ldn Try.isAgg23 Try.sizeOf23 (by kernel_rfl) H) (fun x26 H => ?_)
        refine ls_fr (b := ⟨#[x0, x1, x2, x3, x4, x5, x6, (.int .i64 0), x8, x9, x10, (D_1 0), (D 0), (D 1), (D 2), (D 3), (D 4), (D 5), (D 6), (D 7), (D 8), x10, x22, x23, x24, x24, x26, (D_1 7), (D_1 8), (D_1 9), (D_1 10), (D_1 11), (D_1 12), (D_1 13), (D_1 14), (D_1 15), (D_1 16), (D_1 17), (D_1 18), (D_1 19), (D_1 20), (D_1 21), (D_1 22), (D_1 23), (D_1 24), (D_1 25), (D_1 26), (D_1 27), (D_1 28), (D_1 29), (D_1 30), (D_1 31), (D_1 32), undef, undef], []⟩) (by kernel_rfl) ?_
        refine ls_d (d := some 27) (by kernel_rfl) (by rw [hb]; kernel_rfl) HA_5 (d_call (by kernel_rfl) (by kernel_rfl) H) (fun x27 h_12 w_12 H HA_12 => ?_)
        refine ls_pick_t (x := x27) (by kernel_rfl) (by rw [hb]; kernel_rfl) (by kernel_rfl) ?_
        refine ls_nil ?_
        refine then_normal ?_
        exact ⟨(fun i => ([x26, x27]).getD i undef), x27, h_12, by kernel_rfl, HA_12, H⟩
      · refine ls_skip (d := some 26) (by kernel_rfl) (by rw [hb]; kernel_rfl) ?_
        refine ls_fr (b := ⟨#[x0, x1, x2, x3, x4, x5, x6, (.int .i64 0), x8, x9, x10, (D_1 0), (D 0), (D 1), (D 2), (D 3), (D 4), (D 5), (D 6), (D 7), (D 8), x10, x22, x23, x24, x24, undef, (D_1 7), (D_1 8), (D_1 9), (D_1 10), (D_1 11), (D_1 12), (D_1 13), (D_1 14), (D_1 15), (D_1 16), (D_1 17), (D_1 18), (D_1 19), (D_1 20), (D_1 21), (D_1 22), (D_1 23), (D_1 24), (D_1 25), (D_1 26), (D_1 27), (D_1 28), (D_1 29), (D_1 30), (D_1 31), (D_1 32), undef, undef], []⟩) (by kernel_rfl) ?_
        refine ls_skip (d := some 27) (by kernel_rfl) (by rw [hb]; kernel_rfl) ?_
        refine ls_pick_f (y := (.bool false)) (by kernel_rfl) (by rw [hb]; kernel_rfl) (by kernel_rfl) ?_
        refine ls_nil ?_
        refine then_normal ?_
        exact ⟨(fun i => ([undef, undef]).getD i undef), (.bool false), h_5, by kernel_rfl, HA_5, H⟩
      · rintro _ w_6 ⟨D_2, x28, h_6, rfl, HA_6, H⟩
        refine ls_nil ?_
        refine then_normal ?_
        refine fr_eq (b := ⟨#[x0, x1, x2, x3, x4, x5, x6, (.int .i64 0), x8, x9, x10, (D_1 0), (D 0), (D 1), (D 2), (D 3), (D 4), (D 5), (D 6), (D 7), (D 8), x10, x22, x23, x24, x24, (D_2 0), (D_2 1), x28, (D_1 9), (D_1 10), (D_1 11), (D_1 12), (D_1 13), (D_1 14), (D_1 15), (D_1 16), (D_1 17), (D_1 18), (D_1 19), (D_1 20), (D_1 21), (D_1 22), (D_1 23), (D_1 24), (D_1 25), (D_1 26), (D_1 27), (D_1 28), (D_1 29), (D_1 30), (D_1 31), (D_1 32), undef, undef], []⟩) (by kernel_rfl) ?_
        refine wp_if rfl H (fun H => ?_) (fun H => ?_)
        · refine wp_skip ?_
          refine then_normal ?_
          refine fr_eq (b := ⟨#[x0, x1, x2, x3, x4, x5, x6, (.int .i64 0), x8, x9, x10, (D_1 0), (D 0), (D 1), (D 2), (D 3), (D 4), (D 5), (D 6), (D 7), (D 8), x10, x22, x23, x24, x24, (D_2 0), (D_2 1), x28, (D_1 9), (D_1 10), (D_1 11), (D_1 12), (D_1 13), (D_1 14), (D_1 15), (D_1 16), (D_1 17), (D_1 18), (D_1 19), (D_1 20), (D_1 21), (D_1 22), (D_1 23), (D_1 24), (D_1 25), (D_1 26), (D_1 27), (D_1 28), (D_1 29), (D_1 30), (D_1 31), (D_1 32), undef, undef], []⟩) (by kernel_rfl) ?_
          refine wp_seq ?_
          refine wp_block ?_
          refine wp_seq ?_
          refine lwp_list ?_
          refine ls_assign (x := (.int .i64 0)) (by kernel_rfl) (by kernel_rfl) ?_
          refine ls_nil ?_
          refine then_normal ?_
          refine fr_eq (b := ⟨#[x0, x1, x2, x3, x4, x5, x6, (.int .i64 0), x8, x9, x10, (.int .i64 0), (D 0), (D 1), (D 2), (D 3), (D 4), (D 5), (D 6), (D 7), (D 8), x10, x22, x23, x24, x24, (D_2 0), (D_2 1), x28, (D_1 9), (D_1 10), (D_1 11), (D_1 12), (D_1 13), (D_1 14), (D_1 15), (D_1 16), (D_1 17), (D_1 18), (D_1 19), (D_1 20), (D_1 21), (D_1 22), (D_1 23), (D_1 24), (D_1 25), (D_1 26), (D_1 27), (D_1 28), (D_1 29), (D_1 30), (D_1 31), (D_1 32), undef, undef], []⟩) (by kernel_rfl) ?_
          refine wp_block ?_
          obtain ⟨I_1, m_1, H0, HB⟩ := H
          refine wp_loop (fun a w => ∃ (D_3 : Nat → Value) (x9_1 x11 : Value) (h_7 : Heap), a = ⟨#[x0, x1, x2, x3, x4, x5, x6, (.int .i64 0), x8, x9_1, x10, x11, (D 0), (D 1), (D 2), (D 3), (D 4), (D 5), (D 6), (D 7), (D 8), x10, x22, x23, x24, x24, (D_2 0), (D_2 1), x28, (D_1 9), (D_1 10), (D_3 0), (D_3 1), (D_3 2), (D_3 3), (D_3 4), (D_3 5), (D_3 6), (D_3 7), (D_3 8), (D_3 9), (D_3 10), (D_3 11), (D_3 12), (D_3 13), (D_3 14), (D_3 15), (D_3 16), (D_3 17), (D_3 18), (D_3 19), (D_3 20), (D_3 21), undef, undef], []⟩ ∧ At w0 w h_7 ∧ I_1 (x9_1, x11) h_7) (fun a w => m_1 ((a.tmps.getD 9 undef), (a.tmps.getD 11 undef)) w.heap) ?_ ?_
          · exact ⟨(fun i => ([(D_1 11), (D_1 12), (D_1 13), (D_1 14), (D_1 15), (D_1 16), (D_1 17), (D_1 18), (D_1 19), (D_1 20), (D_1 21), (D_1 22), (D_1 23), (D_1 24), (D_1 25), (D_1 26), (D_1 27), (D_1 28), (D_1 29), (D_1 30), (D_1 31), (D_1 32)]).getD i undef), x9, (.int .i64 0), h_6, by kernel_rfl, HA_6, H0⟩
          · rintro _ w_7 ⟨D_3, x9_1, x11, h_7, rfl, HA_7, HI⟩
            have H : betonyref06_Grid_Fill_l3 (fun x9' x10' h' => I (x9', x10') h' ∧ m (x9', x10') h' < m (x9, x10) h_5) x3 x4 x5 x8 x10 (fun x9_1' x11' h' => I_1 (x9_1', x11') h' ∧ m_1 (x9_1', x11') h' < m_1 (x9_1, x11) h_7) x9_1 x11 h_7 := HB (x9_1, x11) h_7 HI
            clear HB H0 HI
            unfold betonyref06_Grid_Fill_l3 at H
            refine wp_seq ?_
            refine wp_seq ?_
            refine lwp_list ?_
            refine ls_move (x := x11) (by kernel_rfl) (by kernel_rfl) ?_
            refine ls_p (d := some 32) (by kernel_rfl) (by kernel_rfl) (p_off Try.underlying37 rfl (fun w => ⟨_, Try.sizeOf3 w⟩) rfl (by kernel_rfl) H) (fun x32 H => ?_)
            refine ls_y (d := some 33) (by kernel_rfl) (by kernel_rfl) HA_7 (y_ld Try.isAgg3 (by kernel_rfl) H) (fun x33 H => ?_)
            refine ls_p (d := some 34) (by kernel_rfl) (by kernel_rfl) (p_sLt (by kernel_rfl) (by kernel_rfl) H) (fun x34 H => ?_)
            refine ls_nil ?_
            refine then_normal ?_
            refine fr_eq (b := ⟨#[x0, x1, x2, x3, x4, x5, x6, (.int .i64 0), x8, x9_1, x10, x11, (D 0), (D 1), (D 2), (D 3), (D 4), (D 5), (D 6), (D 7), (D 8), x10, x22, x23, x24, x24, (D_2 0), (D_2 1), x28, (D_1 9), (D_1 10), x11, x32, x33, x34, (D_3 4), (D_3 5), (D_3 6), (D_3 7), (D_3 8), (D_3 9), (D_3 10), (D_3 11), (D_3 12), (D_3 13), (D_3 14), (D_3 15), (D_3 16), (D_3 17), (D_3 18), (D_3 19), (D_3 20), (D_3 21), undef, undef], []⟩) (by kernel_rfl) ?_
            refine wp_if rfl H (fun H => ?_) (fun H => ?_)
            · refine wp_skip ?_
              refine then_normal ?_
              refine fr_eq (b := ⟨#[x0, x1, x2, x3, x4, x5, x6, (.int .i64 0), x8, x9_1, x10, x11, (D 0), (D 1), (D 2), (D 3), (D 4), (D 5), (D 6), (D 7), (D 8), x10, x22, x23, x24, x24, (D_2 0), (D_2 1), x28, (D_1 9), (D_1 10), x11, x32, x33, x34, (D_3 4), (D_3 5), (D_3 6), (D_3 7), (D_3 8), (D_3 9), (D_3 10), (D_3 11), (D_3 12), (D_3 13), (D_3 14), (D_3 15), (D_3 16), (D_3 17), (D_3 18), (D_3 19), (D_3 20), (D_3 21), undef, undef], []⟩) (by kernel_rfl) ?_
              refine wp_seq ?_
              refine wp_join (fun a w => ∃ (D_4 : Nat → Value) (x9_2 : Value) (h_8 : Heap), a = ⟨#[x0, x1, x2, x3, x4, x5, x6, (.int .i64 0), x8, x9_2, x10, x11, (D 0), (D 1), (D 2), (D 3), (D 4), (D 5), (D 6), (D 7), (D 8), x10, x22, x23, x24, x24, (D_2 0), (D_2 1), x28, (D_1 9), (D_1 10), x11, x32, x33, x34, (D_3 4), (D_3 5), (D_4 0), (D_4 1), (D_4 2), (D_4 3), (D_4 4), (D_4 5), (D_4 6), (D_4 7), (D_4 8), (D_4 9), (D_4 10), (D_4 11), (D_4 12), (D_4 13), (D_4 14), (D_4 15), undef, undef], []⟩ ∧ At w0 w h_8 ∧ betonyref06_Grid_Fill_j4 (fun x9_1' x11' h' => I_1 (x9_1', x11') h' ∧ m_1 (x9_1', x11') h' < m_1 (x9_1, x11) h_7) x11 x9_2 h_8) ?_ ?_
              · refine wp_block ?_
                refine wp_seq ?_
                refine lwp_list ?_
                refine ls_y (d := some 37) (by kernel_rfl) (by kernel_rfl) HA_7 (y_ldn Try.isAgg23 Try.sizeOf23 (by kernel_rfl) H) (fun x37 H => ?_)
                refine ls_move (x := x11) (by kernel_rfl) (by kernel_rfl) ?_
                refine ls_move (x := x10) (by kernel_rfl) (by kernel_rfl) ?_
                refine ls_d (d := some 40) (by kernel_rfl) (by kernel_rfl) HA_7 (d_call (by kernel_rfl) (by kernel_rfl) H) (fun x40 h_9 w_9 H HA_9 => ?_)
                refine ls_nil ?_
                refine then_normal ?_
                refine fr_eq (b := ⟨#[x0, x1, x2, x3, x4, x5, x6, (.int .i64 0), x8, x9_1, x10, x11, (D 0), (D 1), (D 2), (D 3), (D 4), (D 5), (D 6), (D 7), (D 8), x10, x22, x23, x24, x24, (D_2 0), (D_2 1), x28, (D_1 9), (D_1 10), x11, x32, x33, x34, (D_3 4), (D_3 5), x37, x11, x10, x40, (D_3 10), (D_3 11), (D_3 12), (D_3 13), (D_3 14), (D_3 15), (D_3 16), (D_3 17), (D_3 18), (D_3 19), (D_3 20), (D_3 21), undef, undef], []⟩) (by kernel_rfl) ?_
                refine wp_if rfl H (fun H => ?_) (fun H => ?_)
                · refine wp_seq ?_
                  refine lwp_list ?_
                  refine ls_p (d := some 41) (by kernel_rfl) (by kernel_rfl) (p_off Try.underlying37 rfl (fun w => ⟨_, Try.sizeOf35 w⟩) rfl (by kernel_rfl) H) (fun x41 H => ?_)
                  refine ls_y (d := some 42) (by kernel_rfl) (by kernel_rfl) HA_9 (y_ld Try.isAgg35 (by kernel_rfl) H) (fun x42 H => ?_)
                  refine ls_move (x := x10) (by kernel_rfl) (by kernel_rfl) ?_
                  refine ls_p (d := some 44) (by kernel_rfl) (by kernel_rfl) (p_off Try.underlying37 rfl (fun w => ⟨_, Try.sizeOf3 w⟩) rfl (by kernel_rfl) H) (fun x44 H => ?_)
                  refine ls_y (d := some 45) (by kernel_rfl) (by kernel_rfl) HA_9 (y_ld Try.isAgg3 (by kernel_rfl) H) (fun x45 H => ?_)
                  refine ls_p (d := some 46) (by kernel_rfl) (by kernel_rfl) (p_mul (by kernel_rfl) (by kernel_rfl) H) (fun x46 H => ?_)
                  refine ls_fr (b := ⟨#[x0, x1, x2, x3, x4, x5, x6, (.int .i64 0), x8, x9_1, x10, x11, (D 0), (D 1), (D 2), (D 3), (D 4), (D 5), (D 6), (D 7), (D 8), x10, x22, x23, x24, x24, (D_2 0), (D_2 1), x28, (D_1 9), (D_1 10), x11, x32, x33, x34, (D_3 4), (D_3 5), x37, x11, x10, x40, x41, x42, x10, x44, x45, x46, (D_3 16), (D_3 17), (D_3 18), (D_3 19), (D_3 20), (D_3 21), undef, undef], []⟩) (by kernel_rfl) ?_
                  refine ls_move (x := x11) (by kernel_rfl) (by kernel_rfl) ?_
                  refine ls_p (d := some 48) (by kernel_rfl) (by kernel_rfl) (p_add (by kernel_rfl) (by kernel_rfl) H) (fun x48 H => ?_)
                  refine ls_y (d := some 49) (by kernel_rfl) (by kernel_rfl) HA_9 (y_ldn Try.isAgg27 Try.sizeOf27 (by kernel_rfl) H) (fun x49 H => ?_)
                  refine ls_p (d := some 50) (by kernel_rfl) (by kernel_rfl) (p_ixs Try.underlying35 Try.sizeOf27 (by kernel_rfl) (by kernel_rfl) H) (fun x50 H => ?_)
                  refine ls_d (d := none) (by kernel_rfl) (by kernel_rfl) HA_9 (d_stn Try.sizeOf27 (by kernel_rfl) (by kernel_rfl) H) (fun _ h_10 w_10 H HA_10 => ?_)
                  refine ls_nil ?_
                  refine then_normal ?_
                  refine fr_eq (b := ⟨#[x0, x1, x2, x3, x4, x5, x6, (.int .i64 0), x8, x9_1, x10, x11, (D 0), (D 1), (D 2), (D 3), (D 4), (D 5), (D 6), (D 7), (D 8), x10, x22, x23, x24, x24, (D_2 0), (D_2 1), x28, (D_1 9), (D_1 10), x11, x32, x33, x34, (D_3 4), (D_3 5), x37, x11, x10, x40, x41, x42, x10, x44, x45, x46, x11, x48, x49, x50, (D_3 20), (D_3 21), undef, undef], []⟩) (by kernel_rfl) ?_
                  refine lwp_list ?_
                  refine ls_move (x := x9_1) (by kernel_rfl) (by kernel_rfl) ?_
                  refine ls_p (d := some 52) (by kernel_rfl) (by kernel_rfl) (p_add (by kernel_rfl) (by kernel_rfl) H) (fun x52 H => ?_)
                  refine ls_assign (x := x52) (by kernel_rfl) (by kernel_rfl) ?_
                  refine ls_nil ?_
                  refine block_normal ?_
                  exact ⟨(fun i => ([x37, x11, x10, x40, x41, x42, x10, x44, x45, x46, x11, x48, x49, x50, x9_1, x52]).getD i undef), x52, h_10, by kernel_rfl, HA_10, H⟩
                · refine wp_skip ?_
                  refine block_normal ?_
                  exact ⟨(fun i => ([x37, x11, x10, x40, (D_3 10), (D_3 11), (D_3 12), (D_3 13), (D_3 14), (D_3 15), (D_3 16), (D_3 17), (D_3 18), (D_3 19), (D_3 20), (D_3 21)]).getD i undef), x9_1, h_9, by kernel_rfl, HA_9, H⟩
              · rintro _ w_8 ⟨D_4, x9_2, h_8, rfl, HA_8, H⟩
                unfold betonyref06_Grid_Fill_j4 at H
                refine then_normal ?_
                refine fr_eq (b := ⟨#[x0, x1, x2, x3, x4, x5, x6, (.int .i64 0), x8, x9_2, x10, x11, (D 0), (D 1), (D 2), (D 3), (D 4), (D 5), (D 6), (D 7), (D 8), x10, x22, x23, x24, x24, (D_2 0), (D_2 1), x28, (D_1 9), (D_1 10), x11, x32, x33, x34, (D_3 4), (D_3 5), (D_4 0), (D_4 1), (D_4 2), (D_4 3), (D_4 4), (D_4 5), (D_4 6), (D_4 7), (D_4 8), (D_4 9), (D_4 10), (D_4 11), (D_4 12), (D_4 13), (D_4 14), (D_4 15), undef, undef], []⟩) (by kernel_rfl) ?_
                refine lwp_list ?_
                refine ls_move (x := x11) (by kernel_rfl) (by kernel_rfl) ?_
                refine ls_p (d := some 36) (by kernel_rfl) (by kernel_rfl) (p_add (by kernel_rfl) (by kernel_rfl) H) (fun x36 H => ?_)
                refine ls_assign (x := x36) (by kernel_rfl) (by kernel_rfl) ?_
                refine ls_nil ?_
                exact ⟨⟨(fun i => ([x11, x32, x33, x34, x11, x36, (D_4 0), (D_4 1), (D_4 2), (D_4 3), (D_4 4), (D_4 5), (D_4 6), (D_4 7), (D_4 8), (D_4 9), (D_4 10), (D_4 11), (D_4 12), (D_4 13), (D_4 14), (D_4 15)]).getD i undef), x9_2, x36, h_8, by kernel_rfl, HA_8, H.1⟩, loop_lt HA_8.heap HA_7.heap (by kernel_rfl) (by kernel_rfl) H.2⟩
            · refine wp_exit ?_
              refine then_exit ?_
              refine then_exit ?_
              refine block_exit ?_
              refine block_normal ?_
              refine then_normal ?_
              refine fr_eq (b := ⟨#[x0, x1, x2, x3, x4, x5, x6, (.int .i64 0), x8, x9_1, x10, x11, (D 0), (D 1), (D 2), (D 3), (D 4), (D 5), (D 6), (D 7), (D 8), x10, x22, x23, x24, x24, (D_2 0), (D_2 1), x28, (D_1 9), (D_1 10), x11, x32, x33, x34, (D_3 4), (D_3 5), (D_3 6), (D_3 7), (D_3 8), (D_3 9), (D_3 10), (D_3 11), (D_3 12), (D_3 13), (D_3 14), (D_3 15), (D_3 16), (D_3 17), (D_3 18), (D_3 19), (D_3 20), (D_3 21), undef, undef], []⟩) (by kernel_rfl) ?_
              refine lwp_list ?_
              refine ls_move (x := x10) (by kernel_rfl) (by kernel_rfl) ?_
              refine ls_p (d := some 30) (by kernel_rfl) (by kernel_rfl) (p_add (by kernel_rfl) (by kernel_rfl) H) (fun x30 H => ?_)
              refine ls_assign (x := x30) (by kernel_rfl) (by kernel_rfl) ?_
              refine ls_nil ?_
              exact ⟨⟨(fun i => ([x11, x10, x22, x23, x24, x24, (D_2 0), (D_2 1), x28, x10, x30, x11, x32, x33, x34, (D_3 4), (D_3 5), (D_3 6), (D_3 7), (D_3 8), (D_3 9), (D_3 10), (D_3 11), (D_3 12), (D_3 13), (D_3 14), (D_3 15), (D_3 16), (D_3 17), (D_3 18), (D_3 19), (D_3 20), (D_3 21)]).getD i undef), x9_1, x30, h_7, by kernel_rfl, HA_7, H.1⟩, loop_lt HA_7.heap HA_5.heap (by kernel_rfl) (by kernel_rfl) H.2⟩
        · refine wp_exit ?_
          refine then_exit ?_
          refine then_exit ?_
          refine block_exit ?_
          refine then_normal ?_
          refine fr_eq (b := ⟨#[x0, x1, x2, x3, x4, x5, x6, (.int .i64 0), x8, x9, x10, (D_1 0), (D 0), (D 1), (D 2), (D 3), (D 4), (D 5), (D 6), (D 7), (D 8), x10, x22, x23, x24, x24, (D_2 0), (D_2 1), x28, (D_1 9), (D_1 10), (D_1 11), (D_1 12), (D_1 13), (D_1 14), (D_1 15), (D_1 16), (D_1 17), (D_1 18), (D_1 19), (D_1 20), (D_1 21), (D_1 22), (D_1 23), (D_1 24), (D_1 25), (D_1 26), (D_1 27), (D_1 28), (D_1 29), (D_1 30), (D_1 31), (D_1 32), undef, undef], []⟩) (by kernel_rfl) ?_
          refine wp_seq ?_
          refine lwp_list ?_
          refine ls_y (d := some 53) (by kernel_rfl) (by kernel_rfl) HA_6 (y_ldn Try.isAgg37 Try.sizeOf37 (by kernel_rfl) H) (fun x53 H => ?_)
          refine ls_move (x := x9) (by kernel_rfl) (by kernel_rfl) ?_
          refine ls_d (d := none) (by kernel_rfl) (by kernel_rfl) HA_6 (d_stn Try.sizeOf37 (by kernel_rfl) (by kernel_rfl) H) (fun _ h_11 w_11 H HA_11 => ?_)
          refine ls_assign (x := x9) (by kernel_rfl) (by kernel_rfl) ?_
          refine ls_nil ?_
          refine then_normal ?_
          refine fr_eq (b := ⟨#[x0, x1, x2, x3, x4, x5, x6, x9, x8, x9, x10, (D_1 0), (D 0), (D 1), (D 2), (D 3), (D 4), (D 5), (D 6), (D 7), (D 8), x10, x22, x23, x24, x24, (D_2 0), (D_2 1), x28, (D_1 9), (D_1 10), (D_1 11), (D_1 12), (D_1 13), (D_1 14), (D_1 15), (D_1 16), (D_1 17), (D_1 18), (D_1 19), (D_1 20), (D_1 21), (D_1 22), (D_1 23), (D_1 24), (D_1 25), (D_1 26), (D_1 27), (D_1 28), (D_1 29), (D_1 30), (D_1 31), (D_1 32), x53, x9], []⟩) (by kernel_rfl) ?_
          refine wp_ret ?_
          obtain ⟨r6, hr6, H⟩ := ld_n Try.isAgg37 Try.sizeOf37 H
          exact endR (vs := [r6, x9]) (Try.results19) (by kernel_rfl) ⟨⟨_, (by kernel_rfl), hr6⟩, (by kernel_rfl), trivial⟩ HA_11 H _ (.inr rfl)

end Go.Proofs.Ythhpieidlpjbmaa
