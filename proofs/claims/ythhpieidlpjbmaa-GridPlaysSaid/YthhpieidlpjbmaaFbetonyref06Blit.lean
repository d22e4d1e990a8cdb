/- The shallow reading of one function, and that the function does it. Written by a program. -/
import Derived.Test.YthhpieidlpjbmaaFnC
set_option linter.unusedVariables false
namespace Go.Proofs.Ythhpieidlpjbmaa
open Go Go.HW

def betonyref06_Blit_j4 (next1 : Value → Value → Heap → Prop) (x15 x13_2 : Value) (h_10 : Heap) : Prop :=
  sAdd .i64 x15 (.int .i64 1) fun x49 =>
  next1 x13_2 x49 h_10
def betonyref06_Blit_l3 (next : Value → Value → Heap → Prop) (x3 x4 x5 x6 x7 x12 x14 : Value) (next1 : Value → Value → Heap → Prop) (x13_1 x15 : Value) (h_9 : Heap) : Prop :=
  sOff x6 0 fun x45 =>
  sLd h_9 x45 fun x46 =>
  sLt x15 x46 fun x47 =>
  sIf x47 (sSub .i64 x15 x3 fun x52 =>
  sOff x7 0 fun x53 =>
  sLd h_9 x53 fun x54 =>
  sAdd .i64 x52 x54 fun x55 =>
  sSub .i64 x14 x4 fun x58 =>
  sOff x7 1 fun x59 =>
  sLd h_9 x59 fun x60 =>
  sAdd .i64 x58 x60 fun x61 =>
  sLdN h_9 x7 4 fun x62 =>
  betonyref04_In_c x62 x55 x61 h_9 fun x65 h_11 => 
  sAndH x65 h_11 (fun k =>
  sLdN h_11 x5 3 fun x67 =>
  betonyref06_Grid_In_c x67 x55 x61 h_11 fun x70 h_15 => 
  k x70 h_15) fun x71 h_12 =>
  sIf x71 (∃ C : Heap → Prop, C h_12 ∧ (sOff x12 2 fun x72 =>
  sLdC C x72 fun x73 =>
  sOff x6 0 fun x75 =>
  sLdC C x75 fun x76 =>
  sMul .i64 x14 x76 fun x77 =>
  sAdd .i64 x77 x15 fun x79 =>
  sLdN h_12 x5 3 fun x80 =>
  betonyref06_Grid_At_c x80 x55 x61 h_12 fun x83 h_13 => C h_13 ∧ (
  sIxS x73 x79 4 fun x84 =>
  sStN h_13 x84 x83 4 fun h_14 => 
  sAdd .i64 x13_1 (.int .i64 1) fun x86 =>
  betonyref06_Blit_j4 next1 x15 x86 h_14))) (betonyref06_Blit_j4 next1 x15 x13_1 h_12)) (sAdd .i64 x14 (.int .i64 1) fun x43 =>
  next x13_1 x43 h_9)
def betonyref06_Blit_l2 (R : Value → Heap → Prop) (x3 x4 x5 x6 x7 x10 x12 : Value) (next : Value → Value → Heap → Prop) (x13 x14 : Value) (h_8 : Heap) : Prop :=
  sOff x6 1 fun x39 =>
  sLd h_8 x39 fun x40 =>
  sLt x14 x40 fun x41 =>
  sIf x41 (sLoop (S := Value × Value) (fun nxt s h => betonyref06_Blit_l3 next x3 x4 x5 x6 x7 x12 x14 (fun x13_1' x15' h => nxt (x13_1', x15') h) s.1 s.2 h) (x13, (.int .i64 0)) h_8) (sLdN h_8 x12 3 fun x87 =>
  sStN h_8 x10 x87 3 fun h_16 => 
  sLdN h_16 x10 3 fun r10_1 =>
  R (.tuple #[r10_1, x13]) h_16)
def betonyref06_Blit_j1 (R : Value → Heap → Prop) (x3 x4 x5 x6 x7 x10 x12 : Value) (h_4 : Heap) : Prop :=
  sLdN h_4 x7 4 fun x27 =>
  betonyref04_Right_c x27 h_4 fun x28 h_5 => 
  sNot x28 fun x29 =>
  sOrH x29 h_5 (fun k_1 =>
  sBuild #[.int .i64 0, .int .i64 0, .int .i64 0, .int .i64 0] [(0, 1, x3), (1, 1, x4)] fun x33 =>
  betonyref04_Right_c x33 h_5 fun x34 h_17 => 
  sNot x34 fun x35 =>
  k_1 x35 h_17) fun x36 h_6 =>
  sIf x36 (sLdN h_6 x12 3 fun x37 =>
  sStN h_6 x10 x37 3 fun h_7 => 
  sLdN h_7 x10 3 fun r10 =>
  R (.tuple #[r10, (.int .i64 0)]) h_7) (sLoop (S := Value × Value) (fun nxt s h => betonyref06_Blit_l2 R x3 x4 x5 x6 x7 x10 x12 (fun x13' x14' h => nxt (x13', x14') h) s.1 s.2 h) ((.int .i64 0), (.int .i64 0)) h_6)
def betonyref06_Blit_S (x0 x1 x2 x3 x4 : Value) (h : Heap) (R : Value → Heap → Prop) : Prop :=
  sBox h x0 37 fun x5 h => 
  sBox h x1 37 fun x6 h_1 => 
  sBox h_1 x2 23 fun x7 h_2 => 
  sNew h_2 #[.int .i64 0, .int .i64 0, .slice none 0 0] 37 fun x10 h_3 => 
  ∃ C_1 : Heap → Prop, C_1 h_3 ∧ (sOff x6 0 fun x18 =>
  sLdC C_1 x18 fun x19 =>
  sOff x6 1 fun x20 =>
  sLdC C_1 x20 fun x21 =>
  sOff x6 2 fun x23 =>
  sLdC C_1 x23 fun x24 =>
  (sSlit h_3 #[] [] 27 0 fun x22 h_18 => C_1 h_18 ∧ (
  (sApp h_18 x22 x24 #[.int .i32 0, .int .i64 0, .int .i64 0, .int .i64 0] 27 32 fun x25 h_19 => C_1 h_19 ∧ (
  sBuild #[.int .i64 0, .int .i64 0, .slice none 0 0] [(0, 1, x19), (1, 1, x21), (2, 1, x25)] fun x26 =>
  sNew h_19 #[.int .i64 0, .int .i64 0, .slice none 0 0] 37 fun x12_1 h_20 => C_1 h_20 ∧ (
  sStN h_20 x12_1 x26 3 fun h_21 => 
  betonyref06_Blit_j1 R x3 x4 x5 x6 x7 x10 x12_1 h_21))) ∧
  (sNew h_18 #[.int .i64 0, .int .i64 0, .slice none 0 0] 37 fun x12_2 h_22 => C_1 h_22 ∧ (
  sApp h_22 x22 x24 #[.int .i32 0, .int .i64 0, .int .i64 0, .int .i64 0] 27 32 fun x25_1 h_23 => C_1 h_23 ∧ (
  sBuild #[.int .i64 0, .int .i64 0, .slice none 0 0] [(0, 1, x19), (1, 1, x21), (2, 1, x25_1)] fun x26_1 =>
  sStN h_23 x12_2 x26_1 3 fun h_24 => 
  betonyref06_Blit_j1 R x3 x4 x5 x6 x7 x10 x12_2 h_24))))) ∧
  (sNew h_3 #[.int .i64 0, .int .i64 0, .slice none 0 0] 37 fun x12_3 h_25 => C_1 h_25 ∧ (
  sSlit h_25 #[] [] 27 0 fun x22_1 h_26 => C_1 h_26 ∧ (
  sApp h_26 x22_1 x24 #[.int .i32 0, .int .i64 0, .int .i64 0, .int .i64 0] 27 32 fun x25_2 h_27 => C_1 h_27 ∧ (
  sBuild #[.int .i64 0, .int .i64 0, .slice none 0 0] [(0, 1, x19), (1, 1, x21), (2, 1, x25_2)] fun x26_2 =>
  sStN h_27 x12_3 x26_2 3 fun h_28 => 
  betonyref06_Blit_j1 R x3 x4 x5 x6 x7 x10 x12_3 h_28)))))
set_option maxRecDepth 100000 in
theorem betonyref06_Blit_runs {x0 x1 x2 x3 x4 : Value} {h : Heap} {R : Value → Heap → Prop} (H : betonyref06_Blit_S x0 x1 x2 x3 x4 h R) : betonyref06_Blit_c x0 x1 x2 x3 x4 h R := by
  unfold betonyref06_Blit_S at H
  refine runs_of (b := ⟨([x0, x1, x2, x3, x4, undef, undef, undef, undef, undef, undef, undef, undef, undef, undef, undef, undef, undef, undef, undef, undef, undef, undef, undef, undef, undef, undef, undef, undef, undef, undef, undef, undef, undef, undef, undef, undef, undef, undef, undef, undef, undef, undef, undef, undef, undef, undef, undef, undef, undef] ++ [undef, undef, undef, undef, undef, undef, undef, undef, undef, undef, undef, undef, undef, undef, undef, undef, undef, undef, undef, undef, undef, undef, undef, undef, undef, undef, undef, undef, undef, undef, undef, undef, undef, undef, undef, undef, undef, undef, undef]).toArray, []⟩) Try.call20 Try.func20 rfl (by kernel_rfl) (fun w0 HA => ?_)
  refine wp_seq ?_
  refine lwp_list ?_
  refine ls_d (d := some 5) (by kernel_rfl) (by kernel_rfl) HA (d_box (by kernel_rfl) H) (fun x5 h w H HA => ?_)
  refine ls_d (d := some 6) (by kernel_rfl) (by kernel_rfl) HA (d_box (by kernel_rfl) H) (fun x6 h_1 w_1 H HA_1 => ?_)
  refine ls_d (d := some 7) (by kernel_rfl) (by kernel_rfl) HA_1 (d_box (by kernel_rfl) H) (fun x7 h_2 w_2 H HA_2 => ?_)
  refine ls_d (d := some 10) (by kernel_rfl) (by kernel_rfl) HA_2 (d_alloc Try.zeroValue37 H) (fun x10 h_3 w_3 H HA_3 => ?_)
  refine ls_assign (x := (.int .i64 0)) (by kernel_rfl) (by kernel_rfl) ?_
  refine ls_nil ?_
  refine then_normal ?_
  refine fr_eq (b := ⟨([x0, x1, x2, x3, x4, x5, x6, x7, undef, undef, x10, (.int .i64 0), undef, undef, undef, undef, undef, undef, undef, undef, undef, undef, undef, undef, undef, undef, undef, undef, undef, undef, undef, undef, undef, undef, undef, undef, undef, undef, undef, undef, undef, undef, undef, undef, undef, undef, undef, undef, undef, undef] ++ [undef, undef, undef, undef, undef, undef, undef, undef, undef, undef, undef, undef, undef, undef, undef, undef, undef, undef, undef, undef, undef, undef, undef, undef, undef, undef, undef, undef, undef, undef, undef, undef, undef, undef, undef, undef, undef, undef, undef]).toArray, []⟩) (by kernel_rfl) ?_
  refine wp_seq ?_
  refine wp_join (fun a w => ∃ (D : Nat → Value) (x12 : Value) (h_4 : Heap), a = ⟨([x0, x1, x2, x3, x4, x5, x6, x7, undef, undef, x10, (.int .i64 0), x12, undef, undef, undef, undef, undef, (D 0), (D 1), (D 2), (D 3), (D 4), (D 5), (D 6), (D 7), (D 8), undef, undef, undef, undef, undef, undef, undef, undef, undef, undef, undef, undef, undef, undef, undef, undef, undef, undef, undef, undef, undef, undef, undef] ++ [undef, undef, undef, undef, undef, undef, undef, undef, undef, undef, undef, undef, undef, undef, undef, undef, undef, undef, undef, undef, undef, undef, undef, undef, undef, undef, undef, undef, undef, undef, undef, undef, undef, undef, undef, undef, undef, undef, undef]).toArray, []⟩ ∧ At w0 w h_4 ∧ betonyref06_Blit_j1 R x3 x4 x5 x6 x7 x10 x12 h_4) ?_ ?_
  · obtain ⟨C_1, HC, H⟩ := H
    refine lwp_pl (Nat.testBit 1680) (Nat.testBit 656) (Nat.testBit 293) [0, 1, 0, 4, 0, 0, 32, 112, 255, 0, 1023] (Nat.testBit 0) C_1 (.op 0 (.op 1 (.op 2 (.op 3 (.op 5 (.op 6 (.alt (.op 4 (.alt (.op 7 (.op 8 (.op 9 (.op 10 .done)))) (.op 9 (.op 7 (.op 8 (.op 10 .done)))))) (.op 9 (.op 4 (.op 7 (.op 8 (.op 10 .done)))))))))))) (by kernel_rfl) (by kernel_rfl) (by kernel_rfl) HA_3 HC ?_
    intro w_20 HA_20
    refine lp_p (d := some 18) (by kernel_rfl) rfl (by kernel_rfl) (by kernel_rfl) (p_off Try.underlying37 rfl (fun w => ⟨_, Try.sizeOf3 w⟩) rfl (by kernel_rfl) H) (fun x18 H => ?_)
    refine lp_f (d := some 19) (by kernel_rfl) rfl (by kernel_rfl) (by kernel_rfl) (by kernel_rfl) (by kernel_rfl) (c_ld Try.isAgg3 (by kernel_rfl) H) (fun x19 H => ?_)
    refine lp_p (d := some 20) (by kernel_rfl) rfl (by kernel_rfl) (by kernel_rfl) (p_off Try.underlying37 rfl (fun w => ⟨_, Try.sizeOf3 w⟩) rfl (by kernel_rfl) H) (fun x20 H => ?_)
    refine lp_f (d := some 21) (by kernel_rfl) rfl (by kernel_rfl) (by kernel_rfl) (by kernel_rfl) (by kernel_rfl) (c_ld Try.isAgg3 (by kernel_rfl) H) (fun x21 H => ?_)
    refine lp_p (d := some 23) (by kernel_rfl) rfl (by kernel_rfl) (by kernel_rfl) (p_off Try.underlying37 rfl (fun w => ⟨_, Try.sizeOf35 w⟩) rfl (by kernel_rfl) H) (fun x23 H => ?_)
    refine lp_f (d := some 24) (by kernel_rfl) rfl (by kernel_rfl) (by kernel_rfl) (by kernel_rfl) (by kernel_rfl) (c_ld Try.isAgg35 (by kernel_rfl) H) (fun x24 H => ?_)
    refine lp_fr (b := ⟨([x0, x1, x2, x3, x4, x5, x6, x7, undef, undef, x10, (.int .i64 0), undef, undef, undef, undef, undef, undef, x18, x19, x20, x21, undef, x23, x24, undef, undef, undef, undef, undef, undef, undef, undef, undef, undef, undef, undef, undef, undef, undef, undef, undef, undef, undef, undef, undef, undef, undef, undef, undef] ++ [undef, undef, undef, undef, undef, undef, undef, undef, undef, undef, undef, undef, undef, undef, undef, undef, undef, undef, undef, undef, undef, undef, undef, undef, undef, undef, undef, undef, undef, undef, undef, undef, undef, undef, undef, undef, undef, undef, undef]).toArray, []⟩) (by kernel_rfl) ?_
    obtain ⟨Ha, Hb⟩ := H
    refine lp_alt ?_ ?_
    · have H := Ha
      clear Ha Hb
      refine lp_dc (d := some 22) (by kernel_rfl) rfl (by kernel_rfl) (by kernel_rfl) (by kernel_rfl) HA_20 (d_slit (zc := #[]) Try.underlying35 Try.sizeOf27 (by decide) (.inl ⟨(by kernel_rfl), (by kernel_rfl)⟩) (by kernel_rfl) (by kernel_rfl) H) (fun x22 h_18 w_21 H HA_21 => ?_)
      obtain ⟨Ha, Hb⟩ := H
      refine lp_alt ?_ ?_
      · have H := Ha
        clear Ha Hb
        refine lp_dc (d := some 25) (by kernel_rfl) rfl (by kernel_rfl) (by kernel_rfl) (by kernel_rfl) HA_21 (d_app (z := #[.int .i32 0, .int .i64 0, .int .i64 0, .int .i64 0]) Try.underlying35 Try.underlying35 (.inl ⟨_, rfl⟩) Try.typeInfo27 (by kernel_rfl) Try.sizeOf27 Try.zeroValue27 (by kernel_rfl) (by kernel_rfl) (by kernel_rfl) H) (fun x25 h_19 w_22 H HA_22 => ?_)
        refine lp_p (d := some 26) (by kernel_rfl) rfl (by kernel_rfl) (by kernel_rfl) (p_lit (pl := [(0, 1), (1, 1), (2, 1)]) Try.zeroValue37 Try.underlying37 ⟨(by kernel_rfl), Try.sizeOf3, (by kernel_rfl), Try.sizeOf3, (by kernel_rfl), Try.sizeOf35, trivial⟩ (by kernel_rfl) (by kernel_rfl) H) (fun x26 H => ?_)
        refine lp_dc (d := some 12) (by kernel_rfl) rfl (by kernel_rfl) (by kernel_rfl) (by kernel_rfl) HA_22 (d_alloc Try.zeroValue37 H) (fun x12_1 h_20 w_23 H HA_23 => ?_)
        refine lp_d (d := none) (by kernel_rfl) rfl (by kernel_rfl) (by kernel_rfl) (by kernel_rfl) HA_23 (d_stn Try.sizeOf37 (by kernel_rfl) (by kernel_rfl) H) (fun _ h_21 w_24 H HA_24 => ?_)
        refine lp_nil ?_
        exact ⟨(fun i => ([x18, x19, x20, x21, x22, x23, x24, x25, x26]).getD i undef), x12_1, h_21, by kernel_rfl, HA_24, H⟩
      · have H := Hb
        clear Ha Hb
        refine lp_dc (d := some 12) (by kernel_rfl) rfl (by kernel_rfl) (by kernel_rfl) (by kernel_rfl) HA_21 (d_alloc Try.zeroValue37 H) (fun x12_2 h_22 w_25 H HA_25 => ?_)
        refine lp_dc (d := some 25) (by kernel_rfl) rfl (by kernel_rfl) (by kernel_rfl) (by kernel_rfl) HA_25 (d_app (z := #[.int .i32 0, .int .i64 0, .int .i64 0, .int .i64 0]) Try.underlying35 Try.underlying35 (.inl ⟨_, rfl⟩) Try.typeInfo27 (by kernel_rfl) Try.sizeOf27 Try.zeroValue27 (by kernel_rfl) (by kernel_rfl) (by kernel_rfl) H) (fun x25_1 h_23 w_26 H HA_26 => ?_)
        refine lp_p (d := some 26) (by kernel_rfl) rfl (by kernel_rfl) (by kernel_rfl) (p_lit (pl := [(0, 1), (1, 1), (2, 1)]) Try.zeroValue37 Try.underlying37 ⟨(by kernel_rfl), Try.sizeOf3, (by kernel_rfl), Try.sizeOf3, (by kernel_rfl), Try.sizeOf35, trivial⟩ (by kernel_rfl) (by kernel_rfl) H) (fun x26_1 H => ?_)
        refine lp_d (d := none) (by kernel_rfl) rfl (by kernel_rfl) (by kernel_rfl) (by kernel_rfl) HA_26 (d_stn Try.sizeOf37 (by kernel_rfl) (by kernel_rfl) H) (fun _ h_24 w_27 H HA_27 => ?_)
        refine lp_nil ?_
        exact ⟨(fun i => ([x18, x19, x20, x21, x22, x23, x24, x25_1, x26_1]).getD i undef), x12_2, h_24, by kernel_rfl, HA_27, H⟩
    · have H := Hb
      clear Ha Hb
      refine lp_dc (d := some 12) (by kernel_rfl) rfl (by kernel_rfl) (by kernel_rfl) (by kernel_rfl) HA_20 (d_alloc Try.zeroValue37 H) (fun x12_3 h_25 w_28 H HA_28 => ?_)
      refine lp_dc (d := some 22) (by kernel_rfl) rfl (by kernel_rfl) (by kernel_rfl) (by kernel_rfl) HA_28 (d_slit (zc := #[]) Try.underlying35 Try.sizeOf27 (by decide) (.inl ⟨(by kernel_rfl), (by kernel_rfl)⟩) (by kernel_rfl) (by kernel_rfl) H) (fun x22_1 h_26 w_29 H HA_29 => ?_)
      refine lp_dc (d := some 25) (by kernel_rfl) rfl (by kernel_rfl) (by kernel_rfl) (by kernel_rfl) HA_29 (d_app (z := #[.int .i32 0, .int .i64 0, .int .i64 0, .int .i64 0]) Try.underlying35 Try.underlying35 (.inl ⟨_, rfl⟩) Try.typeInfo27 (by kernel_rfl) Try.sizeOf27 Try.zeroValue27 (by kernel_rfl) (by kernel_rfl) (by kernel_rfl) H) (fun x25_2 h_27 w_30 H HA_30 => ?_)
      refine lp_p (d := some 26) (by kernel_rfl) rfl (by kernel_rfl) (by kernel_rfl) (p_lit (pl := [(0, 1), (1, 1), (2, 1)]) Try.zeroValue37 Try.underlying37 ⟨(by kernel_rfl), Try.sizeOf3, (by kernel_rfl), Try.sizeOf3, (by kernel_rfl), Try.sizeOf35, trivial⟩ (by kernel_rfl) (by kernel_rfl) H) (fun x26_2 H => ?_)
      refine lp_d (d := none) (by kernel_rfl) rfl (by kernel_rfl) (by kernel_rfl) (by kernel_rfl) HA_30 (d_stn Try.sizeOf37 (by kernel_rfl) (by kernel_rfl) H) (fun _ h_28 w_31 H HA_31 => ?_)
      refine lp_nil ?_
      exact ⟨(fun i => ([x18, x19, x20, x21, x22_1, x23, x24, x25_2, x26_2]).getD i undef), x12_3, h_28, by kernel_rfl, HA_31, H⟩
  · rintro _ w_4 ⟨D, x12, h_4, rfl, HA_4, H⟩
    unfold betonyref06_Blit_j1 at H
    refine then_normal ?_
    refine fr_eq (b := ⟨([x0, x1, x2, x3, x4, x5, x6, x7, undef, undef, x10, (.int .i64 0), x12, undef, undef, undef, undef, undef, (D 0), (D 1), (D 2), (D 3), (D 4), (D 5), (D 6), (D 7), (D 8), undef, undef, undef, undef, undef, undef, undef, undef, undef, undef, undef, undef, undef, undef, undef, undef, undef, undef, undef, undef, undef, undef, undef] ++ [undef, undef, undef, undef, undef, undef, undef, undef, undef, undef, undef, undef, undef, undef, undef, undef, undef, undef, undef, undef, undef, undef, undef, undef, undef, undef, undef, undef, undef, undef, undef, undef, undef, undef, undef, undef, undef, undef, undef]).toArray, []⟩) (by kernel_rfl) ?_
    refine wp_seq ?_
    refine lwp_list ?_
    refine ls_assign (x := (.int .i64 0)) (by kernel_rfl) (by kernel_rfl) ?_
    refine ls_nil ?_
    refine then_normal ?_
    refine fr_eq (b := ⟨([x0, x1, x2, x3, x4, x5, x6, x7, undef, undef, x10, (.int .i64 0), x12, (.int .i64 0), undef, undef, undef, undef, (D 0), (D 1), (D 2), (D 3), (D 4), (D 5), (D 6), (D 7), (D 8), undef, undef, undef, undef, undef, undef, undef, undef, undef, undef, undef, undef, undef, undef, undef, undef, undef, undef, undef, undef, undef, undef, undef] ++ [undef, undef, undef, undef, undef, undef, undef, undef, undef, undef, undef, undef, undef, undef, undef, undef, undef, undef, undef, undef, undef, undef, undef, undef, undef, undef, undef, undef, undef, undef, undef, undef, undef, undef, undef, undef, undef, undef, undef]).toArray, []⟩) (by kernel_rfl) ?_
    refine wp_seq ?_
    refine wp_seq ?_
    refine lwp_list ?_
    refine ls_y (d := some 27) (by kernel_rfl) (by kernel_rfl) HA_4 (y_ldn Try.isAgg23 Try.sizeOf23 (by kernel_rfl) H) (fun x27 H => ?_)
    refine ls_d (d := some 28) (by kernel_rfl) (by kernel_rfl) HA_4 (d_call (by kernel_rfl) (by kernel_rfl) H) (fun x28 h_5 w_5 H HA_5 => ?_)
    refine ls_p (d := some 29) (by kernel_rfl) (by kernel_rfl) (p_not (by kernel_rfl) H) (fun x29 H => ?_)
    refine ls_move (x := x29) (by kernel_rfl) (by kernel_rfl) ?_
    refine ls_orh [(), (), (), (), (), ()] (fun K a w => ∃ (D_1 : Nat → Value) (x36 : Value) (h_6 : Heap), a = ⟨([x0, x1, x2, x3, x4, x5, x6, x7, undef, undef, x10, (.int .i64 0), x12, (.int .i64 0), undef, undef, undef, undef, (D 0), (D 1), (D 2), (D 3), (D 4), (D 5), (D 6), (D 7), (D 8), x27, x28, x29, x29, (D_1 0), (D_1 1), (D_1 2), (D_1 3), (D_1 4), x36, undef, undef, undef, undef, undef, undef, undef, undef, undef, undef, undef, undef, undef] ++ [undef, undef, undef, undef, undef, undef, undef, undef, undef, undef, undef, undef, undef, undef, undef, undef, undef, undef, undef, undef, undef, undef, undef, undef, undef, undef, undef, undef, undef, undef, undef, undef, undef, undef, undef, undef, undef, undef, undef]).toArray, []⟩ ∧ At w0 w h_6 ∧ K x36 h_6) H (fun hb_1 H => ?_) (fun hb_1 H => ?_) ?_
    · refine ls_move (x := x3) (by rw [hb_1]; kernel_rfl) (by kernel_rfl) ?_
      refine ls_move (x := x4) (by rw [hb_1]; kernel_rfl) (by kernel_rfl) ?_
      refine ls_fr (b := ⟨([x0, x1, x2, x3, x4, x5, x6, x7, undef, undef, x10, (.int .i64 0), x12, (.int .i64 0), undef, undef, undef, undef, (D 0), (D 1), (D 2), (D 3), (D 4), (D 5), (D 6), (D 7), (D 8), x27, x28, x29, x29, x3, x4, undef, undef, undef, undef, undef, undef, undef, undef, undef, undef, undef, undef, undef, undef, undef, undef, undef] ++ [undef, undef, undef, undef, undef, undef, undef, undef, undef, undef, undef, undef, undef, undef, undef, undef, undef, undef, undef, undef, undef, undef, undef, undef, undef, undef, undef, undef, undef, undef, undef, undef, undef, undef, undef, undef, undef, undef, undef]).toArray, []⟩) (by kernel_rfl) ?_
      refine ls_p (d := some 33) (by kernel_rfl) (by rw [hb_1]; kernel_rfl) (p_lit (pl := [(0, 1), (1, 1), (2, 1), (3, 1)]) Try.zeroValue23 Try.underlying23 ⟨(by kernel_rfl), Try.sizeOf3, (by kernel_rfl), Try.sizeOf3, (by kernel_rfl), Try.sizeOf3, (by kernel_rfl), Try.sizeOf3, trivial⟩ (by kernel_rfl) (by kernel_rfl) H) (fun x33 H => ?_)
      refine ls_d (d := some 34) (by kernel_rfl) (by rw [hb_1]; kernel_rfl) HA_5 (d_call (by kernel_rfl) (by kernel_rfl) H) (fun x34 h_17 w_19 H HA_19 => ?_)
      refine ls_p (d := some 35) (by kernel_rfl) (by rw [hb_1]; kernel_rfl) (p_not (by kernel_rfl) H) (fun x35 H => ?_)
      refine ls_pick_f (y := x35) (by kernel_rfl) (by rw [hb_1]; kernel_rfl) (by kernel_rfl) ?_
      refine ls_nil ?_
      refine then_normal ?_
      exact ⟨(fun i => ([x3, x4, x33, x34, x35]).getD i undef), x35, h_17, by kernel_rfl, HA_19, H⟩
    · refine ls_skip (d := some 31) (by kernel_rfl) (by rw [hb_1]; kernel_rfl) ?_
      refine ls_skip (d := some 32) (by kernel_rfl) (by rw [hb_1]; kernel_rfl) ?_
      refine ls_fr (b := ⟨([x0, x1, x2, x3, x4, x5, x6, x7, undef, undef, x10, (.int .i64 0), x12, (.int .i64 0), undef, undef, undef, undef, (D 0), (D 1), (D 2), (D 3), (D 4), (D 5), (D 6), (D 7), (D 8), x27, x28, x29, x29, undef, undef, undef, undef, undef, undef, undef, undef, undef, undef, undef, undef, undef, undef, undef, undef, undef, undef, undef] ++ [undef, undef, undef, undef, undef, undef, undef, undef, undef, undef, undef, undef, undef, undef, undef, undef, undef, undef, undef, undef, undef, undef, undef, undef, undef, undef, undef, undef, undef, undef, undef, undef, undef, undef, undef, undef, undef, undef, undef]).toArray, []⟩) (by kernel_rfl) ?_
      refine ls_skip (d := some 33) (by kernel_rfl) (by rw [hb_1]; kernel_rfl) ?_
      refine ls_skip (d := some 34) (by kernel_rfl) (by rw [hb_1]; kernel_rfl) ?_
      refine ls_skip (d := some 35) (by kernel_rfl) (by rw [hb_1]; kernel_rfl) ?_
      refine ls_pick_t (x := (.bool true)) (by kernel_rfl) (by rw [hb_1]; kernel_rfl) (by kernel_rfl) ?_
      refine ls_nil ?_
      refine then_normal ?_
      exact ⟨(fun i => ([undef, undef, undef, undef, undef]).getD i undef), (.bool true), h_5, by kernel_rfl, HA_5, H⟩
    · rintro _ w_6 ⟨D_1, x36, h_6, rfl, HA_6, H⟩
      refine ls_nil ?_
      refine then_normal ?_
      refine fr_eq (b := ⟨([x0, x1, x2, x3, x4, x5, x6, x7, undef, undef, x10, (.int .i64 0), x12, (.int .i64 0), undef, undef, undef, undef, (D 0), (D 1), (D 2), (D 3), (D 4), (D 5), (D 6), (D 7), (D 8), x27, x28, x29, x29, (D_1 0), (D_1 1), (D_1 2), (D_1 3), (D_1 4), x36, undef, undef, undef, undef, undef, undef, undef, undef, undef, undef, undef, undef, undef] ++ [undef, undef, undef, undef, undef, undef, undef, undef, undef, undef, undef, undef, undef, undef, undef, undef, undef, undef, undef, undef, undef, undef, undef, undef, undef, undef, undef, undef, undef, undef, undef, undef, undef, undef, undef, undef, undef, undef, undef]).toArray, []⟩) (by kernel_rfl) ?_
      refine wp_if rfl H (fun H => ?_) (fun H => ?_)
      · refine wp_seq ?_
        refine lwp_list ?_
        refine ls_y (d := some 37) (by kernel_rfl) (by kernel_rfl) HA_6 (y_ldn Try.isAgg37 Try.sizeOf37 (by kernel_rfl) H) (fun x37 H => ?_)
        refine ls_d (d := none) (by kernel_rfl) (by kernel_rfl) HA_6 (d_stn Try.sizeOf37 (by kernel_rfl) (by kernel_rfl) H) (fun _ h_7 w_7 H HA_7 => ?_)
        refine ls_assign (x := (.int .i64 0)) (by kernel_rfl) (by kernel_rfl) ?_
        refine ls_nil ?_
        refine then_normal ?_
        refine fr_eq (b := ⟨([x0, x1, x2, x3, x4, x5, x6, x7, undef, undef, x10, (.int .i64 0), x12, (.int .i64 0), undef, undef, undef, undef, (D 0), (D 1), (D 2), (D 3), (D 4), (D 5), (D 6), (D 7), (D 8), x27, x28, x29, x29, (D_1 0), (D_1 1), (D_1 2), (D_1 3), (D_1 4), x36, x37, undef, undef, undef, undef, undef, undef, undef, undef, undef, undef, undef, undef] ++ [undef, undef, undef, undef, undef, undef, undef, undef, undef, undef, undef, undef, undef, undef, undef, undef, undef, undef, undef, undef, undef, undef, undef, undef, undef, undef, undef, undef, undef, undef, undef, undef, undef, undef, undef, undef, undef, undef, undef]).toArray, []⟩) (by kernel_rfl) ?_
        refine wp_ret ?_
        refine then_ret ?_
        obtain ⟨r10, hr10, H⟩ := ld_n Try.isAgg37 Try.sizeOf37 H
        exact endR (vs := [r10, (.int .i64 0)]) (Try.results20) (by kernel_rfl) ⟨⟨_, (by kernel_rfl), hr10⟩, (by kernel_rfl), trivial⟩ HA_7 H _ (.inr rfl)
      · refine wp_skip ?_
        refine then_normal ?_
        refine fr_eq (b := ⟨([x0, x1, x2, x3, x4, x5, x6, x7, undef, undef, x10, (.int .i64 0), x12, (.int .i64 0), undef, undef, undef, undef, (D 0), (D 1), (D 2), (D 3), (D 4), (D 5), (D 6), (D 7), (D 8), x27, x28, x29, x29, (D_1 0), (D_1 1), (D_1 2), (D_1 3), (D_1 4), x36, undef, undef, undef, undef, undef, undef, undef, undef, undef, undef, undef, undef, undef] ++ [undef, undef, undef, undef, undef, undef, undef, undef, undef, undef, undef, undef, undef, undef, undef, undef, undef, undef, undef, undef, undef, undef, undef, undef, undef, undef, undef, undef, undef, undef, undef, undef, undef, undef, undef, undef, undef, undef, undef]).toArray, []⟩) (by kernel_rfl) ?_
        refine wp_seq ?_
        refine wp_seq ?_
        refine lwp_list ?_
        refine ls_assign (x := (.int .i64 0)) (by kernel_rfl) (by kernel_rfl) ?_
        refine ls_nil ?_
        refine then_normal ?_
        refine fr_eq (b := ⟨([x0, x1, x2, x3, x4, x5, x6, x7, undef, undef, x10, (.int .i64 0), x12, (.int .i64 0), (.int .i64 0), undef, undef, undef, (D 0), (D 1), (D 2), (D 3), (D 4), (D 5), (D 6), (D 7), (D 8), x27, x28, x29, x29, (D_1 0), (D_1 1), (D_1 2), (D_1 3), (D_1 4), x36, undef, undef, undef, undef, undef, undef, undef, undef, undef, undef, undef, undef, undef] ++ [undef, undef, undef, undef, undef, undef, undef, undef, undef, undef, undef, undef, undef, undef, undef, undef, undef, undef, undef, undef, undef, undef, undef, undef, undef, undef, undef, undef, undef, undef, undef, undef, undef, undef, undef, undef, undef, undef, undef]).toArray, []⟩) (by kernel_rfl) ?_
        refine wp_block ?_
        obtain ⟨I, m, H0, HB⟩ := H
        refine wp_loop (fun a w => ∃ (D_2 : Nat → Value) (x13 x14 : Value) (h_8 : Heap), a = ⟨([x0, x1, x2, x3, x4, x5, x6, x7, undef, undef, x10, (.int .i64 0), x12, x13, x14, (D_2 0), (D_2 1), (D_2 2), (D 0), (D 1), (D 2), (D 3), (D 4), (D 5), (D 6), (D 7), (D 8), x27, x28, x29, x29, (D_1 0), (D_1 1), (D_1 2), (D_1 3), (D_1 4), x36, undef, (D_2 3), (D_2 4), (D_2 5), (D_2 6), (D_2 7), (D_2 8), (D_2 9), (D_2 10), (D_2 11), (D_2 12), (D_2 13), (D_2 14)] ++ [(D_2 15), (D_2 16), (D_2 17), (D_2 18), (D_2 19), (D_2 20), (D_2 21), (D_2 22), (D_2 23), (D_2 24), (D_2 25), (D_2 26), (D_2 27), (D_2 28), (D_2 29), (D_2 30), (D_2 31), (D_2 32), (D_2 33), (D_2 34), (D_2 35), (D_2 36), (D_2 37), (D_2 38), (D_2 39), (D_2 40), (D_2 41), (D_2 42), (D_2 43), (D_2 44), (D_2 45), (D_2 46), (D_2 47), (D_2 48), (D_2 49), (D_2 50), (D_2 51), undef, undef]).toArray, []⟩ ∧ At w0 w h_8 ∧ I (x13, x14) h_8) (fun a w => m ((a.tmps.getD 13 undef), (a.tmps.getD 14 undef)) w.heap) ?_ ?_
        · exact ⟨(fun i => ([undef, undef, undef, undef, undef, undef, undef, undef, undef, undef, undef, undef, undef, undef, undef, undef, undef, undef, undef, undef, undef, undef, undef, undef, undef, undef, undef, undef, undef, undef, undef, undef, undef, undef, undef, undef, undef, undef, undef, undef, undef, undef, undef, undef, undef, undef, undef, undef, undef, undef] ++ [undef, undef]).getD i undef), (.int .i64 0), (.int .i64 0), h_6, by kernel_rfl, HA_6, H0⟩
        · rintro _ w_8 ⟨D_2, x13, x14, h_8, rfl, HA_8, HI⟩
          have H : betonyref06_Blit_l2 R x3 x4 x5 x6 x7 x10 x12 (fun x13' x14' h' => I (x13', x14') h' ∧ m (x13', x14') h' < m (x13, x14) h_8) x13 x14 h_8 := HB (x13, x14) h_8 HI
          clear HB H0 HI
          unfold betonyref06_Blit_l2 at H
          refine wp_seq ?_
          refine wp_seq ?_
          refine lwp_list ?_
          refine ls_move (x := x14) (by kernel_rfl) (by kernel_rfl) ?_
          refine ls_p (d := some 39) (by kernel_rfl) (by kernel_rfl) (p_off Try.underlying37 rfl (fun w => ⟨_, Try.sizeOf3 w⟩) rfl (by kernel_rfl) H) (fun x39 H => ?_)
          refine ls_y (d := some 40) (by kernel_rfl) (by kernel_rfl) HA_8 (y_ld Try.isAgg3 (by kernel_rfl) H) (fun x40 H => ?_)
          refine ls_p (d := some 41) (by kernel_rfl) (by kernel_rfl) (p_sLt (by kernel_rfl) (by kernel_rfl) H) (fun x41 H => ?_)
          refine ls_nil ?_
          refine then_normal ?_
          refine fr_eq (b := ⟨([x0, x1, x2, x3, x4, x5, x6, x7, undef, undef, x10, (.int .i64 0), x12, x13, x14, (D_2 0), (D_2 1), (D_2 2), (D 0), (D 1), (D 2), (D 3), (D 4), (D 5), (D 6), (D 7), (D 8), x27, x28, x29, x29, (D_1 0), (D_1 1), (D_1 2), (D_1 3), (D_1 4), x36, undef, x14, x39, x40, x41, (D_2 7), (D_2 8), (D_2 9), (D_2 10), (D_2 11), (D_2 12), (D_2 13), (D_2 14)] ++ [(D_2 15), (D_2 16), (D_2 17), (D_2 18), (D_2 19), (D_2 20), (D_2 21), (D_2 22), (D_2 23), (D_2 24), (D_2 25), (D_2 26), (D_2 27), (D_2 28), (D_2 29), (D_2 30), (D_2 31), (D_2 32), (D_2 33), (D_2 34), (D_2 35), (D_2 36), (D_2 37), (D_2 38), (D_2 39), (D_2 40), (D_2 41), (D_2 42), (D_2 43), (D_2 44), (D_2 45), (D_2 46), (D_2 47), (D_2 48), (D_2 49), (D_2 50), (D_2 51), undef, undef]).toArray, []⟩) (by kernel_rfl) ?_
          refine wp_if rfl H (fun H => ?_) (fun H => ?_)
          · refine wp_skip ?_
            refine then_normal ?_
            refine fr_eq (b := ⟨([x0, x1, x2, x3, x4, x5, x6, x7, undef, undef, x10, (.int .i64 0), x12, x13, x14, (D_2 0), (D_2 1), (D_2 2), (D 0), (D 1), (D 2), (D 3), (D 4), (D 5), (D 6), (D 7), (D 8), x27, x28, x29, x29, (D_1 0), (D_1 1), (D_1 2), (D_1 3), (D_1 4), x36, undef, x14, x39, x40, x41, (D_2 7), (D_2 8), (D_2 9), (D_2 10), (D_2 11), (D_2 12), (D_2 13), (D_2 14)] ++ [(D_2 15), (D_2 16), (D_2 17), (D_2 18), (D_2 19), (D_2 20), (D_2 21), (D_2 22), (D_2 23), (D_2 24), (D_2 25), (D_2 26), (D_2 27), (D_2 28), (D_2 29), (D_2 30), (D_2 31), (D_2 32), (D_2 33), (D_2 34), (D_2 35), (D_2 36), (D_2 37), (D_2 38), (D_2 39), (D_2 40), (D_2 41), (D_2 42), (D_2 43), (D_2 44), (D_2 45), (D_2 46), (D_2 47), (D_2 48), (D_2 49), (D_2 50), (D_2 51), undef, undef]).toArray, []⟩) (by kernel_rfl) ?_
            refine wp_seq ?_
            refine wp_block ?_
            refine wp_seq ?_
            refine lwp_list ?_
            refine ls_assign (x := (.int .i64 0)) (by kernel_rfl) (by kernel_rfl) ?_
            refine ls_nil ?_
            refine then_normal ?_
            refine fr_eq (b := ⟨([x0, x1, x2, x3, x4, x5, x6, x7, undef, undef, x10, (.int .i64 0), x12, x13, x14, (.int .i64 0), (D_2 1), (D_2 2), (D 0), (D 1), (D 2), (D 3), (D 4), (D 5), (D 6), (D 7), (D 8), x27, x28, x29, x29, (D_1 0), (D_1 1), (D_1 2), (D_1 3), (D_1 4), x36, undef, x14, x39, x40, x41, (D_2 7), (D_2 8), (D_2 9), (D_2 10), (D_2 11), (D_2 12), (D_2 13), (D_2 14)] ++ [(D_2 15), (D_2 16), (D_2 17), (D_2 18), (D_2 19), (D_2 20), (D_2 21), (D_2 22), (D_2 23), (D_2 24), (D_2 25), (D_2 26), (D_2 27), (D_2 28), (D_2 29), (D_2 30), (D_2 31), (D_2 32), (D_2 33), (D_2 34), (D_2 35), (D_2 36), (D_2 37), (D_2 38), (D_2 39), (D_2 40), (D_2 41), (D_2 42), (D_2 43), (D_2 44), (D_2 45), (D_2 46), (D_2 47), (D_2 48), (D_2 49), (D_2 50), (D_2 51), undef, undef]).toArray, []⟩) (by kernel_rfl) ?_
            refine wp_block ?_
            obtain ⟨I_1, m_1, H0, HB⟩ := H
            refine wp_loop (fun a w => ∃ (D_3 : Nat → Value) (x13_1 x15 : Value) (h_9 : Heap), a = ⟨([x0, x1, x2, x3, x4, x5, x6, x7, undef, undef, x10, (.int .i64 0), x12, x13_1, x14, x15, (D_3 0), (D_3 1), (D 0), (D 1), (D 2), (D 3), (D 4), (D 5), (D 6), (D 7), (D 8), x27, x28, x29, x29, (D_1 0), (D_1 1), (D_1 2), (D_1 3), (D_1 4), x36, undef, x14, x39, x40, x41, (D_2 7), (D_2 8), (D_3 2), (D_3 3), (D_3 4), (D_3 5), (D_3 6), (D_3 7)] ++ [(D_3 8), (D_3 9), (D_3 10), (D_3 11), (D_3 12), (D_3 13), (D_3 14), (D_3 15), (D_3 16), (D_3 17), (D_3 18), (D_3 19), (D_3 20), (D_3 21), (D_3 22), (D_3 23), (D_3 24), (D_3 25), (D_3 26), (D_3 27), (D_3 28), (D_3 29), (D_3 30), (D_3 31), (D_3 32), (D_3 33), (D_3 34), (D_3 35), (D_3 36), (D_3 37), (D_3 38), (D_3 39), (D_3 40), (D_3 41), (D_3 42), (D_3 43), (D_3 44), undef, undef]).toArray, []⟩ ∧ At w0 w h_9 ∧ I_1 (x13_1, x15) h_9) (fun a w => m_1 ((a.tmps.getD 13 undef), (a.tmps.getD 15 undef)) w.heap) ?_ ?_
            · exact ⟨(fun i => ([(D_2 1), (D_2 2), (D_2 9), (D_2 10), (D_2 11), (D_2 12), (D_2 13), (D_2 14), (D_2 15), (D_2 16), (D_2 17), (D_2 18), (D_2 19), (D_2 20), (D_2 21), (D_2 22), (D_2 23), (D_2 24), (D_2 25), (D_2 26), (D_2 27), (D_2 28), (D_2 29), (D_2 30), (D_2 31), (D_2 32), (D_2 33), (D_2 34), (D_2 35), (D_2 36), (D_2 37), (D_2 38), (D_2 39), (D_2 40), (D_2 41), (D_2 42), (D_2 43), (D_2 44), (D_2 45), (D_2 46), (D_2 47), (D_2 48), (D_2 49), (D_2 50), (D_2 51)]).getD i undef), x13, (.int .i64 0), h_8, by kernel_rfl, HA_8, H0⟩
            · rintro _ w_9 ⟨D_3, x13_1, x15, h_9, rfl, HA_9, HI⟩
              have H : betonyref06_Blit_l3 (fun x13' x14' h' => I (x13', x14') h' ∧ m (x13', x14') h' < m (x13, x14) h_8) x3 x4 x5 x6 x7 x12 x14 (fun x13_1' x15' h' => I_1 (x13_1', x15') h' ∧ m_1 (x13_1', x15') h' < m_1 (x13_1, x15) h_9) x13_1 x15 h_9 := HB (x13_1, x15) h_9 HI
              clear HB H0 HI
              unfold betonyref06_Blit_l3 at H
              refine wp_seq ?_
              refine wp_seq ?_
              refine lwp_list ?_
              refine ls_move (x := x15) (by kernel_rfl) (by kernel_rfl) ?_
              refine ls_p (d := some 45) (by kernel_rfl) (by kernel_rfl) (p_off Try.underlying37 rfl (fun w => ⟨_, Try.sizeOf3 w⟩) rfl (by kernel_rfl) H) (fun x45 H => ?_)
              refine ls_y (d := some 46) (by kernel_rfl) (by kernel_rfl) HA_9 (y_ld Try.isAgg3 (by kernel_rfl) H) (fun x46 H => ?_)
              refine ls_p (d := some 47) (by kernel_rfl) (by kernel_rfl) (p_sLt (by kernel_rfl) (by kernel_rfl) H) (fun x47 H => ?_)
              refine ls_nil ?_
              refine then_normal ?_
              refine fr_eq (b := ⟨([x0, x1, x2, x3, x4, x5, x6, x7, undef, undef, x10, (.int .i64 0), x12, x13_1, x14, x15, (D_3 0), (D_3 1), (D 0), (D 1), (D 2), (D 3), (D 4), (D 5), (D 6), (D 7), (D 8), x27, x28, x29, x29, (D_1 0), (D_1 1), (D_1 2), (D_1 3), (D_1 4), x36, undef, x14, x39, x40, x41, (D_2 7), (D_2 8), x15, x45, x46, x47, (D_3 6), (D_3 7)] ++ [(D_3 8), (D_3 9), (D_3 10), (D_3 11), (D_3 12), (D_3 13), (D_3 14), (D_3 15), (D_3 16), (D_3 17), (D_3 18), (D_3 19), (D_3 20), (D_3 21), (D_3 22), (D_3 23), (D_3 24), (D_3 25), (D_3 26), (D_3 27), (D_3 28), (D_3 29), (D_3 30), (D_3 31), (D_3 32), (D_3 33), (D_3 34), (D_3 35), (D_3 36), (D_3 37), (D_3 38), (D_3 39), (D_3 40), (D_3 41), (D_3 42), (D_3 43), (D_3 44), undef, undef]).toArray, []⟩) (by kernel_rfl) ?_
              refine wp_if rfl H (fun H => ?_) (fun H => ?_)
              · refine wp_skip ?_
                refine then_normal ?_
                refine fr_eq (b := ⟨([x0, x1, x2, x3, x4, x5, x6, x7, undef, undef, x10, (.int .i64 0), x12, x13_1, x14, x15, (D_3 0), (D_3 1), (D 0), (D 1), (D 2), (D 3), (D 4), (D 5), (D 6), (D 7), (D 8), x27, x28, x29, x29, (D_1 0), (D_1 1), (D_1 2), (D_1 3), (D_1 4), x36, undef, x14, x39, x40, x41, (D_2 7), (D_2 8), x15, x45, x46, x47, (D_3 6), (D_3 7)] ++ [(D_3 8), (D_3 9), (D_3 10), (D_3 11), (D_3 12), (D_3 13), (D_3 14), (D_3 15), (D_3 16), (D_3 17), (D_3 18), (D_3 19), (D_3 20), (D_3 21), (D_3 22), (D_3 23), (D_3 24), (D_3 25), (D_3 26), (D_3 27), (D_3 28), (D_3 29), (D_3 30), (D_3 31), (D_3 32), (D_3 33), (D_3 34), (D_3 35), (D_3 36), (D_3 37), (D_3 38), (D_3 39), (D_3 40), (D_3 41), (D_3 42), (D_3 43), (D_3 44), undef, undef]).toArray, []⟩) (by kernel_rfl) ?_
                refine wp_seq ?_
                refine wp_join (fun a w => ∃ (D_4 : Nat → Value) (x13_2 : Value) (h_10 : Heap), a = ⟨([x0, x1, x2, x3, x4, x5, x6, x7, undef, undef, x10, (.int .i64 0), x12, x13_2, x14, x15, (D_4 0), (D_4 1), (D 0), (D 1), (D 2), (D 3), (D 4), (D 5), (D 6), (D 7), (D 8), x27, x28, x29, x29, (D_1 0), (D_1 1), (D_1 2), (D_1 3), (D_1 4), x36, undef, x14, x39, x40, x41, (D_2 7), (D_2 8), x15, x45, x46, x47, (D_3 6), (D_3 7)] ++ [(D_4 2), (D_4 3), (D_4 4), (D_4 5), (D_4 6), (D_4 7), (D_4 8), (D_4 9), (D_4 10), (D_4 11), (D_4 12), (D_4 13), (D_4 14), (D_4 15), (D_4 16), (D_4 17), (D_4 18), (D_4 19), (D_4 20), (D_4 21), (D_4 22), (D_4 23), (D_4 24), (D_4 25), (D_4 26), (D_4 27), (D_4 28), (D_4 29), (D_4 30), (D_4 31), (D_4 32), (D_4 33), (D_4 34), (D_4 35), (D_4 36), (D_4 37), (D_4 38), undef, undef]).toArray, []⟩ ∧ At w0 w h_10 ∧ betonyref06_Blit_j4 (fun x13_1' x15' h' => I_1 (x13_1', x15') h' ∧ m_1 (x13_1', x15') h' < m_1 (x13_1, x15) h_9) x15 x13_2 h_10) ?_ ?_
                · refine wp_block ?_
                  refine wp_seq ?_
                  refine lwp_qt (by kernel_rfl) (by kernel_rfl) HA_9 ?_
                  refine lq_move (x := x15) (by kernel_rfl) (by kernel_rfl) ?_
                  refine lq_move (x := x3) (by kernel_rfl) (by kernel_rfl) ?_
                  refine lq_p (d := some 52) (by kernel_rfl) (by kernel_rfl) (p_sub (by kernel_rfl) (by kernel_rfl) H) (fun x52 H => ?_)
                  refine lq_p (d := some 53) (by kernel_rfl) (by kernel_rfl) (p_off Try.underlying23 rfl (fun w => ⟨_, Try.sizeOf3 w⟩) rfl (by kernel_rfl) H) (fun x53 H => ?_)
                  refine lq_y (d := some 54) (by kernel_rfl) (by kernel_rfl) HA_9 (y_ld Try.isAgg3 (by kernel_rfl) H) (fun x54 H => ?_)
                  refine lq_p (d := some 55) (by kernel_rfl) (by kernel_rfl) (p_add (by kernel_rfl) (by kernel_rfl) H) (fun x55 H => ?_)
                  refine lq_fr (b := ⟨([x0, x1, x2, x3, x4, x5, x6, x7, undef, undef, x10, (.int .i64 0), x12, x13_1, x14, x15, (D_3 0), (D_3 1), (D 0), (D 1), (D 2), (D 3), (D 4), (D 5), (D 6), (D 7), (D 8), x27, x28, x29, x29, (D_1 0), (D_1 1), (D_1 2), (D_1 3), (D_1 4), x36, undef, x14, x39, x40, x41, (D_2 7), (D_2 8), x15, x45, x46, x47, (D_3 6), (D_3 7)] ++ [x15, x3, x52, x53, x54, x55, (D_3 14), (D_3 15), (D_3 16), (D_3 17), (D_3 18), (D_3 19), (D_3 20), (D_3 21), (D_3 22), (D_3 23), (D_3 24), (D_3 25), (D_3 26), (D_3 27), (D_3 28), (D_3 29), (D_3 30), (D_3 31), (D_3 32), (D_3 33), (D_3 34), (D_3 35), (D_3 36), (D_3 37), (D_3 38), (D_3 39), (D_3 40), (D_3 41), (D_3 42), (D_3 43), (D_3 44), undef, undef]).toArray, []⟩) (by kernel_rfl) ?_
                  refine lq_move (x := x14) (by kernel_rfl) (by kernel_rfl) ?_
                  refine lq_move (x := x4) (by kernel_rfl) (by kernel_rfl) ?_
                  refine lq_p (d := some 58) (by kernel_rfl) (by kernel_rfl) (p_sub (by kernel_rfl) (by kernel_rfl) H) (fun x58 H => ?_)
                  refine lq_p (d := some 59) (by kernel_rfl) (by kernel_rfl) (p_off Try.underlying23 rfl (fun w => ⟨_, Try.sizeOf3 w⟩) rfl (by kernel_rfl) H) (fun x59 H => ?_)
                  refine lq_y (d := some 60) (by kernel_rfl) (by kernel_rfl) HA_9 (y_ld Try.isAgg3 (by kernel_rfl) H) (fun x60 H => ?_)
                  refine lq_p (d := some 61) (by kernel_rfl) (by kernel_rfl) (p_add (by kernel_rfl) (by kernel_rfl) H) (fun x61 H => ?_)
                  refine lq_fr (b := ⟨([x0, x1, x2, x3, x4, x5, x6, x7, undef, undef, x10, (.int .i64 0), x12, x13_1, x14, x15, (D_3 0), (D_3 1), (D 0), (D 1), (D 2), (D 3), (D 4), (D 5), (D 6), (D 7), (D 8), x27, x28, x29, x29, (D_1 0), (D_1 1), (D_1 2), (D_1 3), (D_1 4), x36, undef, x14, x39, x40, x41, (D_2 7), (D_2 8), x15, x45, x46, x47, (D_3 6), (D_3 7)] ++ [x15, x3, x52, x53, x54, x55, x14, x4, x58, x59, x60, x61, (D_3 20), (D_3 21), (D_3 22), (D_3 23), (D_3 24), (D_3 25), (D_3 26), (D_3 27), (D_3 28), (D_3 29), (D_3 30), (D_3 31), (D_3 32), (D_3 33), (D_3 34), (D_3 35), (D_3 36), (D_3 37), (D_3 38), (D_3 39), (D_3 40), (D_3 41), (D_3 42), (D_3 43), (D_3 44), undef, undef]).toArray, []⟩) (by kernel_rfl) ?_
                  refine lq_assign (x := x55) (by kernel_rfl) (by kernel_rfl) ?_
                  refine lq_assign (x := x61) (by kernel_rfl) (by kernel_rfl) ?_
                  refine lq_nil ?_
                  intro w_11 HA_11
                  refine then_normal ?_
                  refine fr_eq (b := ⟨([x0, x1, x2, x3, x4, x5, x6, x7, undef, undef, x10, (.int .i64 0), x12, x13_1, x14, x15, x55, x61, (D 0), (D 1), (D 2), (D 3), (D 4), (D 5), (D 6), (D 7), (D 8), x27, x28, x29, x29, (D_1 0), (D_1 1), (D_1 2), (D_1 3), (D_1 4), x36, undef, x14, x39, x40, x41, (D_2 7), (D_2 8), x15, x45, x46, x47, (D_3 6), (D_3 7)] ++ [x15, x3, x52, x53, x54, x55, x14, x4, x58, x59, x60, x61, (D_3 20), (D_3 21), (D_3 22), (D_3 23), (D_3 24), (D_3 25), (D_3 26), (D_3 27), (D_3 28), (D_3 29), (D_3 30), (D_3 31), (D_3 32), (D_3 33), (D_3 34), (D_3 35), (D_3 36), (D_3 37), (D_3 38), (D_3 39), (D_3 40), (D_3 41), (D_3 42), (D_3 43), (D_3 44), undef, undef]).toArray, []⟩) (by kernel_rfl) ?_
                  refine wp_seq ?_
                  refine lwp_list ?_
                  refine ls_y (d := some 62) (by kernel_rfl) (by kernel_rfl) HA_11 (y_ldn Try.isAgg23 Try.sizeOf23 (by kernel_rfl) H) (fun x62 H => ?_)
                  refine ls_move (x := x55) (by kernel_rfl) (by kernel_rfl) ?_
                  refine ls_move (x := x61) (by kernel_rfl) (by kernel_rfl) ?_
                  refine ls_d (d := some 65) (by kernel_rfl) (by kernel_rfl) HA_11 (d_call (by kernel_rfl) (by kernel_rfl) H) (fun x65 h_11 w_12 H HA_12 => ?_)
                  refine ls_move (x := x65) (by kernel_rfl) (by kernel_rfl) ?_
                  refine ls_andh [(), (), (), (), ()] (fun K a w => ∃ (D_5 : Nat → Value) (x71 : Value) (h_12 : Heap), a = ⟨([x0, x1, x2, x3, x4, x5, x6, x7, undef, undef, x10, (.int .i64 0), x12, x13_1, x14, x15, x55, x61, (D 0), (D 1), (D 2), (D 3), (D 4), (D 5), (D 6), (D 7), (D 8), x27, x28, x29, x29, (D_1 0), (D_1 1), (D_1 2), (D_1 3), (D_1 4), x36, undef, x14, x39, x40, x41, (D_2 7), (D_2 8), x15, x45, x46, x47, (D_3 6), (D_3 7)] ++ [x15, x3, x52, x53, x54, x55, x14, x4, x58, x59, x60, x61, x62, x55, x61, x65, x65, (D_5 0), (D_5 1), (D_5 2), (D_5 3), x71, (D_3 30), (D_3 31), (D_3 32), (D_3 33), (D_3 34), (D_3 35), (D_3 36), (D_3 37), (D_3 38), (D_3 39), (D_3 40), (D_3 41), (D_3 42), (D_3 43), (D_3 44), undef, undef]).toArray, []⟩ ∧ At w0 w h_12 ∧ K x71 h_12) H (fun hb H => ?_) (fun hb H => ?_) ?_
                  · refine ls_y (d := some 67) (by kernel_rfl) (by rw [hb]; kernel_rfl) HA_12 (y_ldn Try.isAgg37 Try.sizeOf37 (by kernel_rfl) H) (fun x67 H => ?_)
                    refine ls_fr (b := ⟨([x0, x1, x2, x3, x4, x5, x6, x7, undef, undef, x10, (.int .i64 0), x12, x13_1, x14, x15, x55, x61, (D 0), (D 1), (D 2), (D 3), (D 4), (D 5), (D 6), (D 7), (D 8), x27, x28, x29, x29, (D_1 0), (D_1 1), (D_1 2), (D_1 3), (D_1 4), x36, undef, x14, x39, x40, x41, (D_2 7), (D_2 8), x15, x45, x46, x47, (D_3 6), (D_3 7)] ++ [x15, x3, x52, x53, x54, x55, x14, x4, x58, x59, x60, x61, x62, x55, x61, x65, x65, x67, (D_3 26), (D_3 27), (D_3 28), (D_3 29), (D_3 30), (D_3 31), (D_3 32), (D_3 33), (D_3 34), (D_3 35), (D_3 36), (D_3 37), (D_3 38), (D_3 39), (D_3 40), (D_3 41), (D_3 42), (D_3 43), (D_3 44), undef, undef]).toArray, []⟩) (by kernel_rfl) ?_
                    refine ls_move (x := x55) (by rw [hb]; kernel_rfl) (by kernel_rfl) ?_
                    refine ls_move (x := x61) (by rw [hb]; kernel_rfl) (by kernel_rfl) ?_
                    refine ls_d (d := some 70) (by kernel_rfl) (by rw [hb]; kernel_rfl) HA_12 (d_call (by kernel_rfl) (by kernel_rfl) H) (fun x70 h_15 w_17 H HA_17 => ?_)
                    refine ls_pick_t (x := x70) (by kernel_rfl) (by rw [hb]; kernel_rfl) (by kernel_rfl) ?_
                    refine ls_nil ?_
                    refine then_normal ?_
                    exact ⟨(fun i => ([x67, x55, x61, x70]).getD i undef), x70, h_15, by kernel_rfl, HA_17, H⟩
                  · refine ls_skip (d := some 67) (by kernel_rfl) (by rw [hb]; kernel_rfl) ?_
                    refine ls_fr (b := ⟨([x0, x1, x2, x3, x4, x5, x6, x7, undef, undef, x10, (.int .i64 0), x12, x13_1, x14, x15, x55, x61, (D 0), (D 1), (D 2), (D 3), (D 4), (D 5), (D 6), (D 7), (D 8), x27, x28, x29, x29, (D_1 0), (D_1 1), (D_1 2), (D_1 3), (D_1 4), x36, undef, x14, x39, x40, x41, (D_2 7), (D_2 8), x15, x45, x46, x47, (D_3 6), (D_3 7)] ++ [x15, x3, x52, x53, x54, x55, x14, x4, x58, x59, x60, x61, x62, x55, x61, x65, x65, undef, (D_3 26), (D_3 27), (D_3 28), (D_3 29), (D_3 30), (D_3 31), (D_3 32), (D_3 33), (D_3 34), (D_3 35), (D_3 36), (D_3 37), (D_3 38), (D_3 39), (D_3 40), (D_3 41), (D_3 42), (D_3 43), (D_3 44), undef, undef]).toArray, []⟩) (by kernel_rfl) ?_
                    refine ls_skip (d := some 68) (by kernel_rfl) (by rw [hb]; kernel_rfl) ?_
                    refine ls_skip (d := some 69) (by kernel_rfl) (by rw [hb]; kernel_rfl) ?_
                    refine ls_skip (d := some 70) (by kernel_rfl) (by rw [hb]; kernel_rfl) ?_
                    refine ls_pick_f (y := (.bool false)) (by kernel_rfl) (by rw [hb]; kernel_rfl) (by kernel_rfl) ?_
                    refine ls_nil ?_
                    refine then_normal ?_
                    exact ⟨(fun i => ([undef, undef, undef, undef]).getD i undef), (.bool false), h_11, by kernel_rfl, HA_12, H⟩
                  · rintro _ w_13 ⟨D_5, x71, h_12, rfl, HA_13, H⟩
                    refine ls_nil ?_
                    refine then_normal ?_
                    refine fr_eq (b := ⟨([x0, x1, x2, x3, x4, x5, x6, x7, undef, undef, x10, (.int .i64 0), x12, x13_1, x14, x15, x55, x61, (D 0), (D 1), (D 2), (D 3), (D 4), (D 5), (D 6), (D 7), (D 8), x27, x28, x29, x29, (D_1 0), (D_1 1), (D_1 2), (D_1 3), (D_1 4), x36, undef, x14, x39, x40, x41, (D_2 7), (D_2 8), x15, x45, x46, x47, (D_3 6), (D_3 7)] ++ [x15, x3, x52, x53, x54, x55, x14, x4, x58, x59, x60, x61, x62, x55, x61, x65, x65, (D_5 0), (D_5 1), (D_5 2), (D_5 3), x71, (D_3 30), (D_3 31), (D_3 32), (D_3 33), (D_3 34), (D_3 35), (D_3 36), (D_3 37), (D_3 38), (D_3 39), (D_3 40), (D_3 41), (D_3 42), (D_3 43), (D_3 44), undef, undef]).toArray, []⟩) (by kernel_rfl) ?_
                    refine wp_if rfl H (fun H => ?_) (fun H => ?_)
                    · refine wp_seq ?_
                      obtain ⟨C, HC, H⟩ := H
                      refine lwp_mx (Nat.testBit 10240) (Nat.testBit 2048) (Nat.testBit 5869) [0, 1, 0, 0, 8, 28, 0, 124, 0, 0, 0, 1792, 4095, 8191] (Nat.testBit 256) C [0, 1, 2, 3, 4, 5, 6, 7, 8, 9, 10, 11, 12, 13] (by kernel_rfl) (by kernel_rfl) (by kernel_rfl) (by kernel_rfl) HA_13 HC ?_
                      intro w_14 HA_14
                      refine lm_p (d := some 72) (by kernel_rfl) rfl (by kernel_rfl) (by kernel_rfl) (p_off Try.underlying37 rfl (fun w => ⟨_, Try.sizeOf35 w⟩) rfl (by kernel_rfl) H) (fun x72 H => ?_)
                      refine lm_f (d := some 73) (by kernel_rfl) rfl (by kernel_rfl) (by kernel_rfl) (by kernel_rfl) (by kernel_rfl) (c_ld Try.isAgg35 (by kernel_rfl) H) (fun x73 H => ?_)
                      refine lm_al (x := x14) (d := some 74) (by kernel_rfl) rfl (by kernel_rfl) (by kernel_rfl) (al_move (by kernel_rfl)) ?_
                      refine lm_p (d := some 75) (by kernel_rfl) rfl (by kernel_rfl) (by kernel_rfl) (p_off Try.underlying37 rfl (fun w => ⟨_, Try.sizeOf3 w⟩) rfl (by kernel_rfl) H) (fun x75 H => ?_)
                      refine lm_f (d := some 76) (by kernel_rfl) rfl (by kernel_rfl) (by kernel_rfl) (by kernel_rfl) (by kernel_rfl) (c_ld Try.isAgg3 (by kernel_rfl) H) (fun x76 H => ?_)
                      refine lm_p (d := some 77) (by kernel_rfl) rfl (by kernel_rfl) (by kernel_rfl) (p_mul (by kernel_rfl) (by kernel_rfl) H) (fun x77 H => ?_)
                      refine lm_fr (b := ⟨([x0, x1, x2, x3, x4, x5, x6, x7, undef, undef, x10, (.int .i64 0), x12, x13_1, x14, x15, x55, x61, (D 0), (D 1), (D 2), (D 3), (D 4), (D 5), (D 6), (D 7), (D 8), x27, x28, x29, x29, (D_1 0), (D_1 1), (D_1 2), (D_1 3), (D_1 4), x36, undef, x14, x39, x40, x41, (D_2 7), (D_2 8), x15, x45, x46, x47, (D_3 6), (D_3 7)] ++ [x15, x3, x52, x53, x54, x55, x14, x4, x58, x59, x60, x61, x62, x55, x61, x65, x65, (D_5 0), (D_5 1), (D_5 2), (D_5 3), x71, x72, x73, x14, x75, x76, x77, (D_3 36), (D_3 37), (D_3 38), (D_3 39), (D_3 40), (D_3 41), (D_3 42), (D_3 43), (D_3 44), undef, undef]).toArray, []⟩) (by kernel_rfl) ?_
                      refine lm_al (x := x15) (d := some 78) (by kernel_rfl) rfl (by kernel_rfl) (by kernel_rfl) (al_move (by kernel_rfl)) ?_
                      refine lm_p (d := some 79) (by kernel_rfl) rfl (by kernel_rfl) (by kernel_rfl) (p_add (by kernel_rfl) (by kernel_rfl) H) (fun x79 H => ?_)
                      refine lm_b (d := some 80) (by kernel_rfl) rfl (by kernel_rfl) (by kernel_rfl) (by kernel_rfl) (by kernel_rfl) (y_ldn Try.isAgg37 Try.sizeOf37 (by kernel_rfl) H) (fun x80 H => ?_)
                      refine lm_al (x := x55) (d := some 81) (by kernel_rfl) rfl (by kernel_rfl) (by kernel_rfl) (al_move (by kernel_rfl)) ?_
                      refine lm_al (x := x61) (d := some 82) (by kernel_rfl) rfl (by kernel_rfl) (by kernel_rfl) (al_move (by kernel_rfl)) ?_
                      refine lm_dc (d := some 83) (by kernel_rfl) rfl (by kernel_rfl) (by kernel_rfl) (by kernel_rfl) HA_14 (d_call (by kernel_rfl) (by kernel_rfl) H) (fun x83 h_13 w_15 H HA_15 => ?_)
                      refine lm_fr (b := ⟨([x0, x1, x2, x3, x4, x5, x6, x7, undef, undef, x10, (.int .i64 0), x12, x13_1, x14, x15, x55, x61, (D 0), (D 1), (D 2), (D 3), (D 4), (D 5), (D 6), (D 7), (D 8), x27, x28, x29, x29, (D_1 0), (D_1 1), (D_1 2), (D_1 3), (D_1 4), x36, undef, x14, x39, x40, x41, (D_2 7), (D_2 8), x15, x45, x46, x47, (D_3 6), (D_3 7)] ++ [x15, x3, x52, x53, x54, x55, x14, x4, x58, x59, x60, x61, x62, x55, x61, x65, x65, (D_5 0), (D_5 1), (D_5 2), (D_5 3), x71, x72, x73, x14, x75, x76, x77, x15, x79, x80, x55, x61, x83, (D_3 42), (D_3 43), (D_3 44), undef, undef]).toArray, []⟩) (by kernel_rfl) ?_
                      refine lm_p (d := some 84) (by kernel_rfl) rfl (by kernel_rfl) (by kernel_rfl) (p_ixs Try.underlying35 Try.sizeOf27 (by kernel_rfl) (by kernel_rfl) H) (fun x84 H => ?_)
                      refine lm_d (d := none) (by kernel_rfl) rfl (by kernel_rfl) (by kernel_rfl) (by kernel_rfl) HA_15 (d_stn Try.sizeOf27 (by kernel_rfl) (by kernel_rfl) H) (fun _ h_14 w_16 H HA_16 => ?_)
                      refine lm_nil ?_
                      refine then_normal ?_
                      refine fr_eq (b := ⟨([x0, x1, x2, x3, x4, x5, x6, x7, undef, undef, x10, (.int .i64 0), x12, x13_1, x14, x15, x55, x61, (D 0), (D 1), (D 2), (D 3), (D 4), (D 5), (D 6), (D 7), (D 8), x27, x28, x29, x29, (D_1 0), (D_1 1), (D_1 2), (D_1 3), (D_1 4), x36, undef, x14, x39, x40, x41, (D_2 7), (D_2 8), x15, x45, x46, x47, (D_3 6), (D_3 7)] ++ [x15, x3, x52, x53, x54, x55, x14, x4, x58, x59, x60, x61, x62, x55, x61, x65, x65, (D_5 0), (D_5 1), (D_5 2), (D_5 3), x71, x72, x73, x14, x75, x76, x77, x15, x79, x80, x55, x61, x83, x84, (D_3 43), (D_3 44), undef, undef]).toArray, []⟩) (by kernel_rfl) ?_
                      refine lwp_list ?_
                      refine ls_move (x := x13_1) (by kernel_rfl) (by kernel_rfl) ?_
                      refine ls_p (d := some 86) (by kernel_rfl) (by kernel_rfl) (p_add (by kernel_rfl) (by kernel_rfl) H) (fun x86 H => ?_)
                      refine ls_assign (x := x86) (by kernel_rfl) (by kernel_rfl) ?_
                      refine ls_nil ?_
                      refine block_normal ?_
                      exact ⟨(fun i => ([x55, x61, x15, x3, x52, x53, x54, x55, x14, x4, x58, x59, x60, x61, x62, x55, x61, x65, x65, (D_5 0), (D_5 1), (D_5 2), (D_5 3), x71, x72, x73, x14, x75, x76, x77, x15, x79, x80, x55, x61, x83, x84, x13_1, x86]).getD i undef), x86, h_14, by kernel_rfl, HA_16, H⟩
                    · refine wp_skip ?_
                      refine block_normal ?_
                      exact ⟨(fun i => ([x55, x61, x15, x3, x52, x53, x54, x55, x14, x4, x58, x59, x60, x61, x62, x55, x61, x65, x65, (D_5 0), (D_5 1), (D_5 2), (D_5 3), x71, (D_3 30), (D_3 31), (D_3 32), (D_3 33), (D_3 34), (D_3 35), (D_3 36), (D_3 37), (D_3 38), (D_3 39), (D_3 40), (D_3 41), (D_3 42), (D_3 43), (D_3 44)]).getD i undef), x13_1, h_12, by kernel_rfl, HA_13, H⟩
                · rintro _ w_10 ⟨D_4, x13_2, h_10, rfl, HA_10, H⟩
                  unfold betonyref06_Blit_j4 at H
                  refine then_normal ?_
                  refine fr_eq (b := ⟨([x0, x1, x2, x3, x4, x5, x6, x7, undef, undef, x10, (.int .i64 0), x12, x13_2, x14, x15, (D_4 0), (D_4 1), (D 0), (D 1), (D 2), (D 3), (D 4), (D 5), (D 6), (D 7), (D 8), x27, x28, x29, x29, (D_1 0), (D_1 1), (D_1 2), (D_1 3), (D_1 4), x36, undef, x14, x39, x40, x41, (D_2 7), (D_2 8), x15, x45, x46, x47, (D_3 6), (D_3 7)] ++ [(D_4 2), (D_4 3), (D_4 4), (D_4 5), (D_4 6), (D_4 7), (D_4 8), (D_4 9), (D_4 10), (D_4 11), (D_4 12), (D_4 13), (D_4 14), (D_4 15), (D_4 16), (D_4 17), (D_4 18), (D_4 19), (D_4 20), (D_4 21), (D_4 22), (D_4 23), (D_4 24), (D_4 25), (D_4 26), (D_4 27), (D_4 28), (D_4 29), (D_4 30), (D_4 31), (D_4 32), (D_4 33), (D_4 34), (D_4 35), (D_4 36), (D_4 37), (D_4 38), undef, undef]).toArray, []⟩) (by kernel_rfl) ?_
                  refine lwp_list ?_
                  refine ls_move (x := x15) (by kernel_rfl) (by kernel_rfl) ?_
                  refine ls_p (d := some 49) (by kernel_rfl) (by kernel_rfl) (p_add (by kernel_rfl) (by kernel_rfl) H) (fun x49 H => ?_)
                  refine ls_assign (x := x49) (by kernel_rfl) (by kernel_rfl) ?_
                  refine ls_nil ?_
                  exact ⟨⟨(fun i => ([(D_4 0), (D_4 1), x15, x45, x46, x47, x15, x49, (D_4 2), (D_4 3), (D_4 4), (D_4 5), (D_4 6), (D_4 7), (D_4 8), (D_4 9), (D_4 10), (D_4 11), (D_4 12), (D_4 13), (D_4 14), (D_4 15), (D_4 16), (D_4 17), (D_4 18), (D_4 19), (D_4 20), (D_4 21), (D_4 22), (D_4 23), (D_4 24), (D_4 25), (D_4 26), (D_4 27), (D_4 28), (D_4 29), (D_4 30), (D_4 31), (D_4 32), (D_4 33), (D_4 34), (D_4 35), (D_4 36), (D_4 37), (D_4 38)]).getD i undef), x13_2, x49, h_10, by kernel_rfl, HA_10, H.1⟩, loop_lt HA_10.heap HA_9.heap (by kernel_rfl) (by kernel_rfl) H.2⟩
              · refine wp_exit ?_
                refine then_exit ?_
                refine then_exit ?_
                refine block_exit ?_
                refine block_normal ?_
                refine then_normal ?_
                refine fr_eq (b := ⟨([x0, x1, x2, x3, x4, x5, x6, x7, undef, undef, x10, (.int .i64 0), x12, x13_1, x14, x15, (D_3 0), (D_3 1), (D 0), (D 1), (D 2), (D 3), (D 4), (D 5), (D 6), (D 7), (D 8), x27, x28, x29, x29, (D_1 0), (D_1 1), (D_1 2), (D_1 3), (D_1 4), x36, undef, x14, x39, x40, x41, (D_2 7), (D_2 8), x15, x45, x46, x47, (D_3 6), (D_3 7)] ++ [(D_3 8), (D_3 9), (D_3 10), (D_3 11), (D_3 12), (D_3 13), (D_3 14), (D_3 15), (D_3 16), (D_3 17), (D_3 18), (D_3 19), (D_3 20), (D_3 21), (D_3 22), (D_3 23), (D_3 24), (D_3 25), (D_3 26), (D_3 27), (D_3 28), (D_3 29), (D_3 30), (D_3 31), (D_3 32), (D_3 33), (D_3 34), (D_3 35), (D_3 36), (D_3 37), (D_3 38), (D_3 39), (D_3 40), (D_3 41), (D_3 42), (D_3 43), (D_3 44), undef, undef]).toArray, []⟩) (by kernel_rfl) ?_
                refine lwp_list ?_
                refine ls_move (x := x14) (by kernel_rfl) (by kernel_rfl) ?_
                refine ls_p (d := some 43) (by kernel_rfl) (by kernel_rfl) (p_add (by kernel_rfl) (by kernel_rfl) H) (fun x43 H => ?_)
                refine ls_assign (x := x43) (by kernel_rfl) (by kernel_rfl) ?_
                refine ls_nil ?_
                exact ⟨⟨(fun i => ([x15, (D_3 0), (D_3 1), x14, x39, x40, x41, x14, x43, x15, x45, x46, x47, (D_3 6), (D_3 7), (D_3 8), (D_3 9), (D_3 10), (D_3 11), (D_3 12), (D_3 13), (D_3 14), (D_3 15), (D_3 16), (D_3 17), (D_3 18), (D_3 19), (D_3 20), (D_3 21), (D_3 22), (D_3 23), (D_3 24), (D_3 25), (D_3 26), (D_3 27), (D_3 28), (D_3 29), (D_3 30), (D_3 31), (D_3 32), (D_3 33), (D_3 34), (D_3 35), (D_3 36), (D_3 37), (D_3 38), (D_3 39), (D_3 40), (D_3 41), (D_3 42)] ++ [(D_3 43), (D_3 44)]).getD i undef), x13_1, x43, h_9, by kernel_rfl, HA_9, H.1⟩, loop_lt HA_9.heap HA_8.heap (by kernel_rfl) (by kernel_rfl) H.2⟩
          · refine wp_exit ?_
            refine then_exit ?_
            refine then_exit ?_
            refine block_exit ?_
            refine then_normal ?_
            refine fr_eq (b := ⟨([x0, x1, x2, x3, x4, x5, x6, x7, undef, undef, x10, (.int .i64 0), x12, x13, x14, (D_2 0), (D_2 1), (D_2 2), (D 0), (D 1), (D 2), (D 3), (D 4), (D 5), (D 6), (D 7), (D 8), x27, x28, x29, x29, (D_1 0), (D_1 1), (D_1 2), (D_1 3), (D_1 4), x36, undef, x14, x39, x40, x41, (D_2 7), (D_2 8), (D_2 9), (D_2 10), (D_2 11), (D_2 12), (D_2 13), (D_2 14)] ++ [(D_2 15), (D_2 16), (D_2 17), (D_2 18), (D_2 19), (D_2 20), (D_2 21), (D_2 22), (D_2 23), (D_2 24), (D_2 25), (D_2 26), (D_2 27), (D_2 28), (D_2 29), (D_2 30), (D_2 31), (D_2 32), (D_2 33), (D_2 34), (D_2 35), (D_2 36), (D_2 37), (D_2 38), (D_2 39), (D_2 40), (D_2 41), (D_2 42), (D_2 43), (D_2 44), (D_2 45), (D_2 46), (D_2 47), (D_2 48), (D_2 49), (D_2 50), (D_2 51), undef, undef]).toArray, []⟩) (by kernel_rfl) ?_
            refine wp_seq ?_
            refine lwp_list ?_
            refine ls_y (d := some 87) (by kernel_rfl) (by kernel_rfl) HA_8 (y_ldn Try.isAgg37 Try.sizeOf37 (by kernel_rfl) H) (fun x87 H => ?_)
            refine ls_move (x := x13) (by kernel_rfl) (by kernel_rfl) ?_
            refine ls_d (d := none) (by kernel_rfl) (by kernel_rfl) HA_8 (d_stn Try.sizeOf37 (by kernel_rfl) (by kernel_rfl) H) (fun _ h_16 w_18 H HA_18 => ?_)
            refine ls_assign (x := x13) (by kernel_rfl) (by kernel_rfl) ?_
            refine ls_nil ?_
            refine then_normal ?_
            refine fr_eq (b := ⟨([x0, x1, x2, x3, x4, x5, x6, x7, undef, undef, x10, x13, x12, x13, x14, (D_2 0), (D_2 1), (D_2 2), (D 0), (D 1), (D 2), (D 3), (D 4), (D 5), (D 6), (D 7), (D 8), x27, x28, x29, x29, (D_1 0), (D_1 1), (D_1 2), (D_1 3), (D_1 4), x36, undef, x14, x39, x40, x41, (D_2 7), (D_2 8), (D_2 9), (D_2 10), (D_2 11), (D_2 12), (D_2 13), (D_2 14)] ++ [(D_2 15), (D_2 16), (D_2 17), (D_2 18), (D_2 19), (D_2 20), (D_2 21), (D_2 22), (D_2 23), (D_2 24), (D_2 25), (D_2 26), (D_2 27), (D_2 28), (D_2 29), (D_2 30), (D_2 31), (D_2 32), (D_2 33), (D_2 34), (D_2 35), (D_2 36), (D_2 37), (D_2 38), (D_2 39), (D_2 40), (D_2 41), (D_2 42), (D_2 43), (D_2 44), (D_2 45), (D_2 46), (D_2 47), (D_2 48), (D_2 49), (D_2 50), (D_2 51), x87, x13]).toArray, []⟩) (by kernel_rfl) ?_
            refine wp_ret ?_
            obtain ⟨r10_1, hr10_1, H⟩ := ld_n Try.isAgg37 Try.sizeOf37 H
            exact endR (vs := [r10_1, x13]) (Try.results20) (by kernel_rfl) ⟨⟨_, (by kernel_rfl), hr10_1⟩, (by kernel_rfl), trivial⟩ HA_18 H _ (.inr rfl)

end Go.Proofs.Ythhpieidlpjbmaa
