/- Texts in one. -/
import Derived.Test.YtlcklnbgknhhkaaFnC
import Derived.Test.YtlcklnbgknhhkaaHwU
import Derived.Test.YtlcklnbgknhhkaaLk4
section
/- The shallow reading of one function, and that the function does it. Written by a program. -/
set_option linter.unusedVariables false
namespace Go.Proofs.Ytlcklnbgknhhkaa
open Go Go.HW

def bytes_Join_j3 (next : Value → Value → Heap → Prop) (x5_1 x47 x44 : Value) (h_4 : Heap) : Prop :=
  sLen x47 fun x56 =>
  sAdd .i64 x5_1 x56 fun x57 =>
  sAdd .i64 x44 (.int .i64 1) fun x58 =>
  next x57 x58 h_4
def bytes_Join_l4 (R : Value → Heap → Prop) (x1 x63 x70 x71 : Value) (next : Value → Value → Heap → Prop) (x9 x72 : Value) (h_7 : Heap) : Prop :=
  sLt x72 x71 fun x73 =>
  sIf x73 (sIxS x70 x72 1 fun x74 =>
  sLd h_7 x74 fun x75 =>
  sSl x63 (some x9) none 1 fun x79 =>
  sCopy h_7 x79 x1 1 fun x81 h_8 => 
  sAdd .i64 x9 x81 fun x82 =>
  sSl x63 (some x82) none 1 fun x86 =>
  sCopy h_8 x86 x75 1 fun x88 h_9 => 
  sAdd .i64 x82 x88 fun x89 =>
  sAdd .i64 x72 (.int .i64 1) fun x90 =>
  next x89 x90 h_9) (R x63 h_7)
def bytes_Join_l2 (R : Value → Heap → Prop) (x0 x1 x43 : Value) (next : Value → Value → Heap → Prop) (x5_1 x44 : Value) (h_3 : Heap) : Prop :=
  sLt x44 x43 fun x45 =>
  sIf x45 (sIxS x0 x44 1 fun x46 =>
  sLd h_3 x46 fun x47 =>
  sLen x47 fun x49 =>
  sSub .i64 (.int .i64 9223372036854775807) x5_1 fun x51 =>
  sGt x49 x51 fun x52 =>
  sIf x52 (False) (bytes_Join_j3 next x5_1 x47 x44 h_3)) (sMkNZ h_3 x5_1 5 fun x60 h_5 => 
  sSl3 x60 none x5_1 x5_1 1 fun x63 =>
  sIxS x0 (.int .i64 0) 1 fun x66 =>
  sLd h_5 x66 fun x67 =>
  sCopy h_5 x63 x67 1 fun x68 h_6 => 
  sSl x0 (some (.int .i64 1)) none 1 fun x70 =>
  sLen x70 fun x71 =>
  sLoop (S := Value × Value) (fun nxt s h => bytes_Join_l4 R x1 x63 x70 x71 (fun x9' x72' h => nxt (x9', x72') h) s.1 s.2 h) (x68, (.int .i64 0)) h_6)
def bytes_Join_j1 (R : Value → Heap → Prop) (x0 x1 x5 : Value) (h_2 : Heap) : Prop :=
  sLen x0 fun x43 =>
  sLoop (S := Value × Value) (fun nxt s h => bytes_Join_l2 R x0 x1 x43 (fun x5_1' x44' h => nxt (x5_1', x44') h) s.1 s.2 h) (x5, (.int .i64 0)) h_2
def bytes_Join_j5 (R : Value → Heap → Prop) (x0 x1 : Value) (h_10 : Heap) : Prop :=
  sLen x1 fun x36 =>
  sLen x0 fun x38 =>
  sSub .i64 x38 (.int .i64 1) fun x39 =>
  sMul .i64 x36 x39 fun x40 =>
  sAdd .i64 (.int .i64 0) x40 fun x41 =>
  bytes_Join_j1 R x0 x1 x41 h_10
def bytes_Join_S (x0 x1 : Value) (h : Heap) (R : Value → Heap → Prop) : Prop :=
  sLen x0 fun x13 =>
  sEq x13 (.int .i64 0) fun x14 =>
  sIf x14 (sSlit h #[] [] 5 0 fun x15 h => 
  R x15 h) (sLen x0 fun x17 =>
  sEq x17 (.int .i64 1) fun x18 =>
  sIf x18 (sIxS x0 (.int .i64 0) 1 fun x20 =>
  sLd h x20 fun x21 =>
  sApp h (.slice none 0 0) x21 #[.int .u8 0] 5 1 fun x22 h_1 => 
  R x22 h_1) (sLen x1 fun x24 =>
  sGt x24 (.int .i64 0) fun x25 =>
  sIf x25 (sLen x1 fun x27 =>
  sLen x0 fun x29 =>
  sSub .i64 x29 (.int .i64 1) fun x30 =>
  sQuo .i64 (.int .i64 9223372036854775807) x30 fun x31 =>
  sGe x27 x31 fun x32 =>
  sIf x32 (False) (bytes_Join_j5 R x0 x1 h)) (bytes_Join_j1 R x0 x1 (.int .i64 0) h)))
set_option maxRecDepth 100000 in
theorem bytes_Join_runs {x0 x1 : Value} {h : Heap} {R : Value → Heap → Prop} (H : bytes_Join_S x0 x1 h R) : bytes_Join_c x0 x1 h R := by
 unfold bytes_Join_S at H
 refine runs_of (b := ⟨(Ap [x0, x1] 90).toArray, []⟩) Try.call55 Try.func55 rfl (by kernel_rfl) (fun w0 HA => ?_)
 refine wp_seq (lwp_list ?_)
 refine ls_assign (x := (.slice none 0 0)) (by kernel_rfl) (by kernel_rfl) ?_
 refine ls_nil (then_normal ?_)
 refine fr_eq (b := ⟨(Ap [x0, x1, ud, ud, (.slice none 0 0)] 87).toArray, []⟩) (by kernel_rfl) ?_
 refine wp_seq ?_
 refine wp_seq (lwp_list ?_)
 refine ls_move (x := x0) (by kernel_rfl) (by kernel_rfl) ?_
 refine ls_p (d := some 13) (by kernel_rfl) (by kernel_rfl) (p_len Try.underlying22 (by kernel_rfl) H) (fun x13 H => ?_)
 refine ls_p (d := some 14) (by kernel_rfl) (by kernel_rfl) (p_sEq (by kernel_rfl) (by kernel_rfl) H) (fun x14 H => ?_)
 refine ls_nil (then_normal ?_)
 refine fr_eq (b := ⟨(Aq [x0, x1, ud, ud, (.slice none 0 0)] 7 (Ap [x0, x13, x14] 77)).toArray, []⟩) (by kernel_rfl) ?_
 refine wp_if rfl H (fun H => ?_) (fun H => ?_)
 ·refine wp_seq (lwp_list ?_)
  refine ls_d (d := some 15) (by kernel_rfl) (by kernel_rfl) HA (d_slit (zc := #[]) Try.underlying30 Try.sizeOf5 (by decide) (.inl ⟨(by kernel_rfl), (by kernel_rfl)⟩) (by kernel_rfl) (by kernel_rfl) H) (fun x15 h w H HA => ?_)
  refine ls_assign (x := x15) (by kernel_rfl) (by kernel_rfl) ?_
  refine ls_nil (then_normal ?_)
  refine fr_eq (b := ⟨(Aq [x0, x1, ud, ud, x15] 7 (Ap [x0, x13, x14, x15] 76)).toArray, []⟩) (by kernel_rfl) ?_
  refine wp_ret ?_
  refine then_ret ?_
  exact end1 (Try.results55) (by kernel_rfl) (by kernel_rfl) HA H _ (.inr rfl)
 ·refine wp_skip ?_
  refine then_normal ?_
  refine fr_eq (b := ⟨(Aq [x0, x1, ud, ud, (.slice none 0 0)] 7 (Ap [x0, x13, x14] 77)).toArray, []⟩) (by kernel_rfl) ?_
  refine wp_seq ?_
  refine wp_seq (lwp_list ?_)
  refine ls_move (x := x0) (by kernel_rfl) (by kernel_rfl) ?_
  refine ls_p (d := some 17) (by kernel_rfl) (by kernel_rfl) (p_len Try.underlying22 (by kernel_rfl) H) (fun x17 H => ?_)
  refine ls_p (d := some 18) (by kernel_rfl) (by kernel_rfl) (p_sEq (by kernel_rfl) (by kernel_rfl) H) (fun x18 H => ?_)
  refine ls_nil (then_normal ?_)
  refine fr_eq (b := ⟨(Aq [x0, x1, ud, ud, (.slice none 0 0)] 7 (Ap [x0, x13, x14, ud, x0, x17, x18] 73)).toArray, []⟩) (by kernel_rfl) ?_
  refine wp_if rfl H (fun H => ?_) (fun H => ?_)
  ·refine wp_seq (lwp_list ?_)
   refine ls_move (x := x0) (by kernel_rfl) (by kernel_rfl) ?_
   refine ls_p (d := some 20) (by kernel_rfl) (by kernel_rfl) (p_ixs Try.underlying22 Try.sizeOf30 (by kernel_rfl) (by kernel_rfl) H) (fun x20 H => ?_)
   refine ls_y (d := some 21) (by kernel_rfl) (by kernel_rfl) HA (y_ld Try.isAgg30 (by kernel_rfl) H) (fun x21 H => ?_)
   refine ls_d (d := some 22) (by kernel_rfl) (by kernel_rfl) HA (d_app (z := #[.int .u8 0]) Try.underlying30 Try.underlying30 (.inl ⟨_, rfl⟩) Try.typeInfo5 (by kernel_rfl) Try.sizeOf5 Try.zeroValue5 (by kernel_rfl) (by kernel_rfl) (by kernel_rfl) H) (fun x22 h_1 w_1 H HA_1 => ?_)
   refine ls_assign (x := x22) (by kernel_rfl) (by kernel_rfl) ?_
   refine ls_nil (then_normal ?_)
   refine fr_eq (b := ⟨(Aq [x0, x1, ud, ud, x22] 7 (Ap [x0, x13, x14, ud, x0, x17, x18, x0, x20, x21, x22] 69)).toArray, []⟩) (by kernel_rfl) ?_
   refine wp_ret ?_
   refine then_ret ?_
   exact end1 (Try.results55) (by kernel_rfl) (by kernel_rfl) HA_1 H _ (.inr rfl)
  ·refine wp_skip ?_
   refine then_normal ?_
   refine fr_eq (b := ⟨(Aq [x0, x1, ud, ud, (.slice none 0 0)] 7 (Ap [x0, x13, x14, ud, x0, x17, x18] 73)).toArray, []⟩) (by kernel_rfl) ?_
   refine wp_seq (lwp_list ?_)
   refine ls_assign (x := (.int .i64 0)) (by kernel_rfl) (by kernel_rfl) ?_
   refine ls_nil (then_normal ?_)
   refine fr_eq (b := ⟨(Aq [x0, x1, ud, ud, (.slice none 0 0), (.int .i64 0)] 6 (Ap [x0, x13, x14, ud, x0, x17, x18] 73)).toArray, []⟩) (by kernel_rfl) ?_
   refine wp_seq ?_
   refine wp_seq (lwp_list ?_)
   refine ls_move (x := x1) (by kernel_rfl) (by kernel_rfl) ?_
   refine ls_p (d := some 24) (by kernel_rfl) (by kernel_rfl) (p_len Try.underlying30 (by kernel_rfl) H) (fun x24 H => ?_)
   refine ls_p (d := some 25) (by kernel_rfl) (by kernel_rfl) (p_sGt (by kernel_rfl) (by kernel_rfl) H) (fun x25 H => ?_)
   refine ls_nil (then_normal ?_)
   refine fr_eq (b := ⟨(Aq [x0, x1, ud, ud, (.slice none 0 0), (.int .i64 0)] 6 (Ap [x0, x13, x14, ud, x0, x17, x18, ud, ud, ud, ud, x1, x24, x25] 66)).toArray, []⟩) (by kernel_rfl) ?_
   refine wp_join (fun a w => ∃ (D : Nat → Value) (x5 : Value) (h_2 : Heap), a = ⟨(Aq [x0, x1, ud, ud, (.slice none 0 0), x5] 6 ([x0, x13, x14, ud, x0, x17, x18, ud, ud, ud, ud, x1, x24, x25] ++ (Ad D 0 16 (Ap [] 50)))).toArray, []⟩ ∧ At w0 w h_2 ∧ bytes_Join_j1 R x0 x1 x5 h_2) ?_ ?_
   ·refine wp_if rfl H (fun H => ?_) (fun H => ?_)
    ·refine wp_seq ?_
     refine wp_seq (lwp_list ?_)
     refine ls_move (x := x1) (by kernel_rfl) (by kernel_rfl) ?_
     refine ls_p (d := some 27) (by kernel_rfl) (by kernel_rfl) (p_len Try.underlying30 (by kernel_rfl) H) (fun x27 H => ?_)
     refine ls_move (x := x0) (by kernel_rfl) (by kernel_rfl) ?_
     refine ls_p (d := some 29) (by kernel_rfl) (by kernel_rfl) (p_len Try.underlying22 (by kernel_rfl) H) (fun x29 H => ?_)
     refine ls_p (d := some 30) (by kernel_rfl) (by kernel_rfl) (p_sub (by kernel_rfl) (by kernel_rfl) H) (fun x30 H => ?_)
     refine ls_p (d := some 31) (by kernel_rfl) (by kernel_rfl) (p_quo (by kernel_rfl) (by kernel_rfl) H) (fun x31 H => ?_)
     refine ls_fr (b := ⟨(Aq [x0, x1, ud, ud, (.slice none 0 0), (.int .i64 0)] 6 (Ap [x0, x13, x14, ud, x0, x17, x18, ud, ud, ud, ud, x1, x24, x25, x1, x27, x0, x29, x30, x31] 60)).toArray, []⟩) (by kernel_rfl) ?_
     refine ls_p (d := some 32) (by kernel_rfl) (by kernel_rfl) (p_sGe (by kernel_rfl) (by kernel_rfl) H) (fun x32 H => ?_)
     refine ls_nil (then_normal ?_)
     refine fr_eq (b := ⟨(Aq [x0, x1, ud, ud, (.slice none 0 0), (.int .i64 0)] 6 (Ap [x0, x13, x14, ud, x0, x17, x18, ud, ud, ud, ud, x1, x24, x25, x1, x27, x0, x29, x30, x31, x32] 59)).toArray, []⟩) (by kernel_rfl) ?_
     refine wp_join (fun a w => ∃ (D_4 : Nat → Value) (h_10 : Heap), a = ⟨(Aq [x0, x1, ud, ud, (.slice none 0 0), (.int .i64 0)] 6 (Ap [x0, x13, x14, ud, x0, x17, x18, ud, ud, ud, ud, x1, x24, x25, x1, x27, x0, x29, x30, x31, x32, (D_4 0)] 58)).toArray, []⟩ ∧ At w0 w h_10 ∧ bytes_Join_j5 R x0 x1 h_10) ?_ ?_
     ·refine wp_if rfl H (fun H => ?_) (fun H => ?_)
      ·exact H.elim
      ·refine wp_skip ?_
       exact ⟨(fun i => ([ud]).getD i ud), h, by kernel_rfl, HA, H⟩
     ·rintro _ w_10 ⟨D_4, h_10, rfl, HA_10, H⟩
      unfold bytes_Join_j5 at H
      refine then_normal ?_
      refine fr_eq (b := ⟨(Aq [x0, x1, ud, ud, (.slice none 0 0), (.int .i64 0)] 6 (Ap [x0, x13, x14, ud, x0, x17, x18, ud, ud, ud, ud, x1, x24, x25, x1, x27, x0, x29, x30, x31, x32, (D_4 0)] 58)).toArray, []⟩) (by kernel_rfl) ?_
      refine lwp_list ?_
      refine ls_move (x := (.int .i64 0)) (by kernel_rfl) (by kernel_rfl) ?_
      refine ls_move (x := x1) (by kernel_rfl) (by kernel_rfl) ?_
      refine ls_p (d := some 36) (by kernel_rfl) (by kernel_rfl) (p_len Try.underlying30 (by kernel_rfl) H) (fun x36 H => ?_)
      refine ls_move (x := x0) (by kernel_rfl) (by kernel_rfl) ?_
      refine ls_p (d := some 38) (by kernel_rfl) (by kernel_rfl) (p_len Try.underlying22 (by kernel_rfl) H) (fun x38 H => ?_)
      refine ls_p (d := some 39) (by kernel_rfl) (by kernel_rfl) (p_sub (by kernel_rfl) (by kernel_rfl) H) (fun x39 H => ?_)
      refine ls_fr (b := ⟨(Aq [x0, x1, ud, ud, (.slice none 0 0), (.int .i64 0)] 6 (Ap [x0, x13, x14, ud, x0, x17, x18, ud, ud, ud, ud, x1, x24, x25, x1, x27, x0, x29, x30, x31, x32, (D_4 0), (.int .i64 0), x1, x36, x0, x38, x39] 52)).toArray, []⟩) (by kernel_rfl) ?_
      refine ls_p (d := some 40) (by kernel_rfl) (by kernel_rfl) (p_mul (by kernel_rfl) (by kernel_rfl) H) (fun x40 H => ?_)
      refine ls_p (d := some 41) (by kernel_rfl) (by kernel_rfl) (p_add (by kernel_rfl) (by kernel_rfl) H) (fun x41 H => ?_)
      refine ls_assign (x := x41) (by kernel_rfl) (by kernel_rfl) ?_
      refine ls_nil ?_
      exact ⟨(fun i => ([x1, x27, x0, x29, x30, x31, x32, (D_4 0), (.int .i64 0), x1, x36, x0, x38, x39, x40, x41]).getD i ud), x41, h_10, by kernel_rfl, HA_10, H⟩
    ·refine wp_skip ?_
     exact ⟨(fun i => (Ap [] 16).getD i ud), (.int .i64 0), h, by kernel_rfl, HA, H⟩
   ·rintro _ w_2 ⟨D, x5, h_2, rfl, HA_2, H⟩
    unfold bytes_Join_j1 at H
    refine then_normal ?_
    refine fr_eq (b := ⟨(Aq [x0, x1, ud, ud, (.slice none 0 0), x5] 6 ([x0, x13, x14, ud, x0, x17, x18, ud, ud, ud, ud, x1, x24, x25] ++ (Ad D 0 16 (Ap [] 50)))).toArray, []⟩) (by kernel_rfl) ?_
    refine wp_seq ?_
    refine wp_seq (lwp_list ?_)
    refine ls_move (x := x0) (by kernel_rfl) (by kernel_rfl) ?_
    refine ls_p (d := some 43) (by kernel_rfl) (by kernel_rfl) (p_len Try.underlying22 (by kernel_rfl) H) (fun x43 H => ?_)
    refine ls_move (x := (.int .i64 0)) (by kernel_rfl) (by kernel_rfl) ?_
    refine ls_nil (then_normal ?_)
    refine fr_eq (b := ⟨(Aq [x0, x1, ud, ud, (.slice none 0 0), x5] 6 ([x0, x13, x14, ud, x0, x17, x18, ud, ud, ud, ud, x1, x24, x25] ++ (Ad D 0 16 (Ap [x0, x43, (.int .i64 0)] 47)))).toArray, []⟩) (by kernel_rfl) ?_
    refine wp_block ?_
    obtain ⟨I, m, H0, HB⟩ := H
    refine wp_loop (fun a w => ∃ (D_1 : Nat → Value) (x5_1 x44 : Value) (h_3 : Heap), a = ⟨([x0, x1, ud, ud, (.slice none 0 0), x5_1, ud, (D_1 0), ud, ud, ud, ud, x0, x13, x14, ud, x0, x17, x18, ud, ud, ud, ud, x1, x24, x25] ++ (Ad D 0 16 ([x0, x43, x44] ++ (Ad D_1 1 14 (Ap [] 33))))).toArray, []⟩ ∧ At w0 w h_3 ∧ I (x5_1, x44) h_3) (fun a w => m ((a.tmps.getD 5 ud), (a.tmps.getD 44 ud)) w.heap) ?_ ?_
    ·exact ⟨(fun i => (Ap [] 15).getD i ud), x5, (.int .i64 0), h_2, by kernel_rfl, HA_2, H0⟩
    ·rintro _ w_3 ⟨D_1, x5_1, x44, h_3, rfl, HA_3, HI⟩
     have H : bytes_Join_l2 R x0 x1 x43 (fun x5_1' x44' h' => I (x5_1', x44') h' ∧ m (x5_1', x44') h' < m (x5_1, x44) h_3) x5_1 x44 h_3 := HB (x5_1, x44) h_3 HI
     clear HB H0 HI
     unfold bytes_Join_l2 at H
     refine wp_seq (lwp_list ?_)
     refine ls_p (d := some 45) (by kernel_rfl) (by kernel_rfl) (p_sLt (by kernel_rfl) (by kernel_rfl) H) (fun x45 H => ?_)
     refine ls_nil (then_normal ?_)
     refine fr_eq (b := ⟨([x0, x1, ud, ud, (.slice none 0 0), x5_1, ud, (D_1 0), ud, ud, ud, ud, x0, x13, x14, ud, x0, x17, x18, ud, ud, ud, ud, x1, x24, x25] ++ (Ad D 0 16 ([x0, x43, x44, x45] ++ (Ad D_1 2 13 (Ap [] 33))))).toArray, []⟩) (by kernel_rfl) ?_
     refine wp_seq ?_
     refine wp_if rfl H (fun H => ?_) (fun H => ?_)
     ·refine wp_skip ?_
      refine then_normal ?_
      refine fr_eq (b := ⟨([x0, x1, ud, ud, (.slice none 0 0), x5_1, ud, (D_1 0), ud, ud, ud, ud, x0, x13, x14, ud, x0, x17, x18, ud, ud, ud, ud, x1, x24, x25] ++ (Ad D 0 16 ([x0, x43, x44, x45] ++ (Ad D_1 2 13 (Ap [] 33))))).toArray, []⟩) (by kernel_rfl) ?_
      refine wp_seq ?_
      refine wp_block ?_
      refine wp_seq (lwp_list ?_)
      refine ls_p (d := some 46) (by kernel_rfl) (by kernel_rfl) (p_ixs Try.underlying22 Try.sizeOf30 (by kernel_rfl) (by kernel_rfl) H) (fun x46 H => ?_)
      refine ls_y (d := some 47) (by kernel_rfl) (by kernel_rfl) HA_3 (y_ld Try.isAgg30 (by kernel_rfl) H) (fun x47 H => ?_)
      refine ls_assign (x := x47) (by kernel_rfl) (by kernel_rfl) ?_
      refine ls_nil (then_normal ?_)
      refine fr_eq (b := ⟨([x0, x1, ud, ud, (.slice none 0 0), x5_1, ud, x47, ud, ud, ud, ud, x0, x13, x14, ud, x0, x17, x18, ud, ud, ud, ud, x1, x24, x25] ++ (Ad D 0 16 ([x0, x43, x44, x45, x46, x47] ++ (Ad D_1 4 11 (Ap [] 33))))).toArray, []⟩) (by kernel_rfl) ?_
      refine wp_seq ?_
      refine wp_seq (lwp_list ?_)
      refine ls_move (x := x47) (by kernel_rfl) (by kernel_rfl) ?_
      refine ls_p (d := some 49) (by kernel_rfl) (by kernel_rfl) (p_len Try.underlying30 (by kernel_rfl) H) (fun x49 H => ?_)
      refine ls_move (x := x5_1) (by kernel_rfl) (by kernel_rfl) ?_
      refine ls_p (d := some 51) (by kernel_rfl) (by kernel_rfl) (p_sub (by kernel_rfl) (by kernel_rfl) H) (fun x51 H => ?_)
      refine ls_p (d := some 52) (by kernel_rfl) (by kernel_rfl) (p_sGt (by kernel_rfl) (by kernel_rfl) H) (fun x52 H => ?_)
      refine ls_nil (then_normal ?_)
      refine fr_eq (b := ⟨([x0, x1, ud, ud, (.slice none 0 0), x5_1, ud, x47, ud, ud, ud, ud, x0, x13, x14, ud, x0, x17, x18, ud, ud, ud, ud, x1, x24, x25] ++ (Ad D 0 16 ([x0, x43, x44, x45, x46, x47, x47, x49, x5_1, x51, x52] ++ (Ad D_1 9 6 (Ap [] 33))))).toArray, []⟩) (by kernel_rfl) ?_
      refine wp_join (fun a w => ∃ (D_2 : Nat → Value) (h_4 : Heap), a = ⟨([x0, x1, ud, ud, (.slice none 0 0), x5_1, ud, x47, ud, ud, ud, ud, x0, x13, x14, ud, x0, x17, x18, ud, ud, ud, ud, x1, x24, x25] ++ (Ad D 0 16 ([x0, x43, x44, x45, x46, x47, x47, x49, x5_1, x51, x52, (D_2 0)] ++ (Ad D_1 10 5 (Ap [] 33))))).toArray, []⟩ ∧ At w0 w h_4 ∧ bytes_Join_j3 (fun x5_1' x44' h' => I (x5_1', x44') h' ∧ m (x5_1', x44') h' < m (x5_1, x44) h_3) x5_1 x47 x44 h_4) ?_ ?_
      ·refine wp_if rfl H (fun H => ?_) (fun H => ?_)
       ·exact H.elim
       ·refine wp_skip ?_
        exact ⟨(fun i => ([(D_1 9)]).getD i ud), h_3, by kernel_rfl, HA_3, H⟩
      ·rintro _ w_4 ⟨D_2, h_4, rfl, HA_4, H⟩
       unfold bytes_Join_j3 at H
       refine then_normal ?_
       refine fr_eq (b := ⟨([x0, x1, ud, ud, (.slice none 0 0), x5_1, ud, x47, ud, ud, ud, ud, x0, x13, x14, ud, x0, x17, x18, ud, ud, ud, ud, x1, x24, x25] ++ (Ad D 0 16 ([x0, x43, x44, x45, x46, x47, x47, x49, x5_1, x51, x52, (D_2 0)] ++ (Ad D_1 10 5 (Ap [] 33))))).toArray, []⟩) (by kernel_rfl) ?_
       refine lwp_list ?_
       refine ls_move (x := x5_1) (by kernel_rfl) (by kernel_rfl) ?_
       refine ls_move (x := x47) (by kernel_rfl) (by kernel_rfl) ?_
       refine ls_p (d := some 56) (by kernel_rfl) (by kernel_rfl) (p_len Try.underlying30 (by kernel_rfl) H) (fun x56 H => ?_)
       refine ls_p (d := some 57) (by kernel_rfl) (by kernel_rfl) (p_add (by kernel_rfl) (by kernel_rfl) H) (fun x57 H => ?_)
       refine ls_assign (x := x57) (by kernel_rfl) (by kernel_rfl) ?_
       refine ls_nil ?_
       refine block_normal ?_
       refine then_normal ?_
       refine fr_eq (b := ⟨([x0, x1, ud, ud, (.slice none 0 0), x57, ud, x47, ud, ud, ud, ud, x0, x13, x14, ud, x0, x17, x18, ud, ud, ud, ud, x1, x24, x25] ++ (Ad D 0 16 (Ap [x0, x43, x44, x45, x46, x47, x47, x49, x5_1, x51, x52, (D_2 0), x5_1, x47, x56, x57, (D_1 14)] 33))).toArray, []⟩) (by kernel_rfl) ?_
       refine lwp_list ?_
       refine ls_p (d := some 58) (by kernel_rfl) (by kernel_rfl) (p_add (by kernel_rfl) (by kernel_rfl) H) (fun x58 H => ?_)
       refine ls_move (x := x58) (by kernel_rfl) (by kernel_rfl) ?_
       refine ls_nil ?_
       exact ⟨⟨(fun i => ([x47, x45, x46, x47, x47, x49, x5_1, x51, x52, (D_2 0), x5_1, x47, x56, x57, x58]).getD i ud), x57, x58, h_4, by kernel_rfl, HA_4, H.1⟩, loop_lt HA_4.heap HA_3.heap (by kernel_rfl) (by kernel_rfl) H.2⟩
     ·refine wp_exit ?_
      refine then_exit ?_
      refine then_exit ?_
      refine block_exit ?_
      refine then_normal ?_
      refine fr_eq (b := ⟨([x0, x1, ud, ud, (.slice none 0 0), x5_1, ud, (D_1 0), ud, ud, ud, ud, x0, x13, x14, ud, x0, x17, x18, ud, ud, ud, ud, x1, x24, x25] ++ (Ad D 0 16 ([x0, x43, x44, x45] ++ (Ad D_1 2 13 (Ap [] 33))))).toArray, []⟩) (by kernel_rfl) ?_
      refine wp_seq (lwp_list ?_)
      refine ls_move (x := x5_1) (by kernel_rfl) (by kernel_rfl) ?_
      refine ls_d (d := some 60) (by kernel_rfl) (by kernel_rfl) HA_3 (d_mnz (ps := #[3]) (t := 30) Try.func73 (by kernel_rfl) (by kernel_rfl) (by kernel_rfl) (by kernel_rfl) Try.underlying30 rfl rfl H) (fun x60 h_5 w_5 H HA_5 => ?_)
      refine ls_move (x := x5_1) (by kernel_rfl) (by kernel_rfl) ?_
      refine ls_move (x := x5_1) (by kernel_rfl) (by kernel_rfl) ?_
      refine ls_p (d := some 63) (by kernel_rfl) (by kernel_rfl) (p_sl3 Try.underlying30 Try.sizeOf5 (by kernel_rfl) (by kernel_rfl) (by kernel_rfl) (by kernel_rfl) H) (fun x63 H => ?_)
      refine ls_assign (x := x63) (by kernel_rfl) (by kernel_rfl) ?_
      refine ls_nil (then_normal ?_)
      refine fr_eq (b := ⟨([x0, x1, ud, ud, (.slice none 0 0), x5_1, ud, (D_1 0), x63, ud, ud, ud, x0, x13, x14, ud, x0, x17, x18, ud, ud, ud, ud, x1, x24, x25] ++ (Ad D 0 16 ([x0, x43, x44, x45] ++ (Ad D_1 2 13 (Ap [x5_1, x60, x5_1, x5_1, x63] 28))))).toArray, []⟩) (by kernel_rfl) ?_
      refine wp_seq (lwp_list ?_)
      refine ls_move (x := x63) (by kernel_rfl) (by kernel_rfl) ?_
      refine ls_move (x := x0) (by kernel_rfl) (by kernel_rfl) ?_
      refine ls_p (d := some 66) (by kernel_rfl) (by kernel_rfl) (p_ixs Try.underlying22 Try.sizeOf30 (by kernel_rfl) (by kernel_rfl) H) (fun x66 H => ?_)
      refine ls_y (d := some 67) (by kernel_rfl) (by kernel_rfl) HA_5 (y_ld Try.isAgg30 (by kernel_rfl) H) (fun x67 H => ?_)
      refine ls_d (d := some 68) (by kernel_rfl) (by kernel_rfl) HA_5 (d_copy Try.underlying30 Try.sizeOf5 (by kernel_rfl) (by kernel_rfl) H) (fun x68 h_6 w_6 H HA_6 => ?_)
      refine ls_assign (x := x68) (by kernel_rfl) (by kernel_rfl) ?_
      refine ls_nil (then_normal ?_)
      refine fr_eq (b := ⟨([x0, x1, ud, ud, (.slice none 0 0), x5_1, ud, (D_1 0), x63, x68, ud, ud, x0, x13, x14, ud, x0, x17, x18, ud, ud, ud, ud, x1, x24, x25] ++ (Ad D 0 16 ([x0, x43, x44, x45] ++ (Ad D_1 2 13 (Ap [x5_1, x60, x5_1, x5_1, x63, x63, x0, x66, x67, x68] 23))))).toArray, []⟩) (by kernel_rfl) ?_
      refine wp_seq ?_
      refine wp_seq (lwp_list ?_)
      refine ls_move (x := x0) (by kernel_rfl) (by kernel_rfl) ?_
      refine ls_p (d := some 70) (by kernel_rfl) (by kernel_rfl) (p_sl Try.underlying22 Try.sizeOf30 (by kernel_rfl) (by kernel_rfl) (by kernel_rfl) H) (fun x70 H => ?_)
      refine ls_p (d := some 71) (by kernel_rfl) (by kernel_rfl) (p_len Try.underlying22 (by kernel_rfl) H) (fun x71 H => ?_)
      refine ls_move (x := (.int .i64 0)) (by kernel_rfl) (by kernel_rfl) ?_
      refine ls_nil (then_normal ?_)
      refine fr_eq (b := ⟨([x0, x1, ud, ud, (.slice none 0 0), x5_1, ud, (D_1 0), x63, x68, ud, ud, x0, x13, x14, ud, x0, x17, x18, ud, ud, ud, ud, x1, x24, x25] ++ (Ad D 0 16 ([x0, x43, x44, x45] ++ (Ad D_1 2 13 (Ap [x5_1, x60, x5_1, x5_1, x63, x63, x0, x66, x67, x68, x0, x70, x71, (.int .i64 0)] 19))))).toArray, []⟩) (by kernel_rfl) ?_
      refine wp_block ?_
      obtain ⟨I_1, m_1, H0, HB⟩ := H
      refine wp_loop (fun a w => ∃ (D_3 : Nat → Value) (x9 x72 : Value) (h_7 : Heap), a = ⟨([x0, x1, ud, ud, (.slice none 0 0), x5_1, ud, (D_1 0), x63, x9, ud, (D_3 0), x0, x13, x14, ud, x0, x17, x18, ud, ud, ud, ud, x1, x24, x25] ++ (Ad D 0 16 ([x0, x43, x44, x45] ++ (Ad D_1 2 13 ([x5_1, x60, x5_1, x5_1, x63, x63, x0, x66, x67, x68, x0, x70, x71, x72] ++ (Ad D_3 1 18 [ud])))))).toArray, []⟩ ∧ At w0 w h_7 ∧ I_1 (x9, x72) h_7) (fun a w => m_1 ((a.tmps.getD 9 ud), (a.tmps.getD 72 ud)) w.heap) ?_ ?_
      ·exact ⟨(fun i => (Ap [] 19).getD i ud), x68, (.int .i64 0), h_6, by kernel_rfl, HA_6, H0⟩
      ·rintro _ w_7 ⟨D_3, x9, x72, h_7, rfl, HA_7, HI⟩
       have H : bytes_Join_l4 R x1 x63 x70 x71 (fun x9' x72' h' => I_1 (x9', x72') h' ∧ m_1 (x9', x72') h' < m_1 (x9, x72) h_7) x9 x72 h_7 := HB (x9, x72) h_7 HI
       clear HB H0 HI
       unfold bytes_Join_l4 at H
       refine wp_seq (lwp_list ?_)
       refine ls_p (d := some 73) (by kernel_rfl) (by kernel_rfl) (p_sLt (by kernel_rfl) (by kernel_rfl) H) (fun x73 H => ?_)
       refine ls_nil (then_normal ?_)
       refine fr_eq (b := ⟨([x0, x1, ud, ud, (.slice none 0 0), x5_1, ud, (D_1 0), x63, x9, ud, (D_3 0), x0, x13, x14, ud, x0, x17, x18, ud, ud, ud, ud, x1, x24, x25] ++ (Ad D 0 16 ([x0, x43, x44, x45] ++ (Ad D_1 2 13 ([x5_1, x60, x5_1, x5_1, x63, x63, x0, x66, x67, x68, x0, x70, x71, x72, x73] ++ (Ad D_3 2 17 [ud])))))).toArray, []⟩) (by kernel_rfl) ?_
       refine wp_seq ?_
       refine wp_if rfl H (fun H => ?_) (fun H => ?_)
       ·refine wp_skip ?_
        refine then_normal ?_
        refine fr_eq (b := ⟨([x0, x1, ud, ud, (.slice none 0 0), x5_1, ud, (D_1 0), x63, x9, ud, (D_3 0), x0, x13, x14, ud, x0, x17, x18, ud, ud, ud, ud, x1, x24, x25] ++ (Ad D 0 16 ([x0, x43, x44, x45] ++ (Ad D_1 2 13 ([x5_1, x60, x5_1, x5_1, x63, x63, x0, x66, x67, x68, x0, x70, x71, x72, x73] ++ (Ad D_3 2 17 [ud])))))).toArray, []⟩) (by kernel_rfl) ?_
        refine wp_seq ?_
        refine wp_block ?_
        refine wp_seq (lwp_list ?_)
        refine ls_p (d := some 74) (by kernel_rfl) (by kernel_rfl) (p_ixs Try.underlying22 Try.sizeOf30 (by kernel_rfl) (by kernel_rfl) H) (fun x74 H => ?_)
        refine ls_y (d := some 75) (by kernel_rfl) (by kernel_rfl) HA_7 (y_ld Try.isAgg30 (by kernel_rfl) H) (fun x75 H => ?_)
        refine ls_assign (x := x75) (by kernel_rfl) (by kernel_rfl) ?_
        refine ls_nil (then_normal ?_)
        refine fr_eq (b := ⟨([x0, x1, ud, ud, (.slice none 0 0), x5_1, ud, (D_1 0), x63, x9, ud, x75, x0, x13, x14, ud, x0, x17, x18, ud, ud, ud, ud, x1, x24, x25] ++ (Ad D 0 16 ([x0, x43, x44, x45] ++ (Ad D_1 2 13 ([x5_1, x60, x5_1, x5_1, x63, x63, x0, x66, x67, x68, x0, x70, x71, x72, x73, x74, x75] ++ (Ad D_3 4 15 [ud])))))).toArray, []⟩) (by kernel_rfl) ?_
        refine wp_seq (lwp_list ?_)
        refine ls_move (x := x9) (by kernel_rfl) (by kernel_rfl) ?_
        refine ls_move (x := x63) (by kernel_rfl) (by kernel_rfl) ?_
        refine ls_move (x := x9) (by kernel_rfl) (by kernel_rfl) ?_
        refine ls_p (d := some 79) (by kernel_rfl) (by kernel_rfl) (p_sl Try.underlying30 Try.sizeOf5 (by kernel_rfl) (by kernel_rfl) (by kernel_rfl) H) (fun x79 H => ?_)
        refine ls_move (x := x1) (by kernel_rfl) (by kernel_rfl) ?_
        refine ls_d (d := some 81) (by kernel_rfl) (by kernel_rfl) HA_7 (d_copy Try.underlying30 Try.sizeOf5 (by kernel_rfl) (by kernel_rfl) H) (fun x81 h_8 w_8 H HA_8 => ?_)
        refine ls_fr (b := ⟨([x0, x1, ud, ud, (.slice none 0 0), x5_1, ud, (D_1 0), x63, x9, ud, x75, x0, x13, x14, ud, x0, x17, x18, ud, ud, ud, ud, x1, x24, x25] ++ (Ad D 0 16 ([x0, x43, x44, x45] ++ (Ad D_1 2 13 ([x5_1, x60, x5_1, x5_1, x63, x63, x0, x66, x67, x68, x0, x70, x71, x72, x73, x74, x75, x9, x63, x9, x79, x1, x81] ++ (Ad D_3 10 9 [ud])))))).toArray, []⟩) (by kernel_rfl) ?_
        refine ls_p (d := some 82) (by kernel_rfl) (by kernel_rfl) (p_add (by kernel_rfl) (by kernel_rfl) H) (fun x82 H => ?_)
        refine ls_assign (x := x82) (by kernel_rfl) (by kernel_rfl) ?_
        refine ls_nil (then_normal ?_)
        refine fr_eq (b := ⟨([x0, x1, ud, ud, (.slice none 0 0), x5_1, ud, (D_1 0), x63, x82, ud, x75, x0, x13, x14, ud, x0, x17, x18, ud, ud, ud, ud, x1, x24, x25] ++ (Ad D 0 16 ([x0, x43, x44, x45] ++ (Ad D_1 2 13 ([x5_1, x60, x5_1, x5_1, x63, x63, x0, x66, x67, x68, x0, x70, x71, x72, x73, x74, x75, x9, x63, x9, x79, x1, x81, x82] ++ (Ad D_3 11 8 [ud])))))).toArray, []⟩) (by kernel_rfl) ?_
        refine lwp_list ?_
        refine ls_move (x := x82) (by kernel_rfl) (by kernel_rfl) ?_
        refine ls_move (x := x63) (by kernel_rfl) (by kernel_rfl) ?_
        refine ls_move (x := x82) (by kernel_rfl) (by kernel_rfl) ?_
        refine ls_p (d := some 86) (by kernel_rfl) (by kernel_rfl) (p_sl Try.underlying30 Try.sizeOf5 (by kernel_rfl) (by kernel_rfl) (by kernel_rfl) H) (fun x86 H => ?_)
        refine ls_move (x := x75) (by kernel_rfl) (by kernel_rfl) ?_
        refine ls_d (d := some 88) (by kernel_rfl) (by kernel_rfl) HA_8 (d_copy Try.underlying30 Try.sizeOf5 (by kernel_rfl) (by kernel_rfl) H) (fun x88 h_9 w_9 H HA_9 => ?_)
        refine ls_fr (b := ⟨([x0, x1, ud, ud, (.slice none 0 0), x5_1, ud, (D_1 0), x63, x82, ud, x75, x0, x13, x14, ud, x0, x17, x18, ud, ud, ud, ud, x1, x24, x25] ++ (Ad D 0 16 ([x0, x43, x44, x45] ++ (Ad D_1 2 13 [x5_1, x60, x5_1, x5_1, x63, x63, x0, x66, x67, x68, x0, x70, x71, x72, x73, x74, x75, x9, x63, x9, x79, x1, x81, x82, x82, x63, x82, x86, x75, x88, (D_3 17), (D_3 18), ud])))).toArray, []⟩) (by kernel_rfl) ?_
        refine ls_p (d := some 89) (by kernel_rfl) (by kernel_rfl) (p_add (by kernel_rfl) (by kernel_rfl) H) (fun x89 H => ?_)
        refine ls_assign (x := x89) (by kernel_rfl) (by kernel_rfl) ?_
        refine ls_nil ?_
        refine block_normal ?_
        refine then_normal ?_
        refine fr_eq (b := ⟨([x0, x1, ud, ud, (.slice none 0 0), x5_1, ud, (D_1 0), x63, x89, ud, x75, x0, x13, x14, ud, x0, x17, x18, ud, ud, ud, ud, x1, x24, x25] ++ (Ad D 0 16 ([x0, x43, x44, x45] ++ (Ad D_1 2 13 [x5_1, x60, x5_1, x5_1, x63, x63, x0, x66, x67, x68, x0, x70, x71, x72, x73, x74, x75, x9, x63, x9, x79, x1, x81, x82, x82, x63, x82, x86, x75, x88, x89, (D_3 18), ud])))).toArray, []⟩) (by kernel_rfl) ?_
        refine lwp_list ?_
        refine ls_p (d := some 90) (by kernel_rfl) (by kernel_rfl) (p_add (by kernel_rfl) (by kernel_rfl) H) (fun x90 H => ?_)
        refine ls_move (x := x90) (by kernel_rfl) (by kernel_rfl) ?_
        refine ls_nil ?_
        exact ⟨⟨(fun i => ([x75, x73, x74, x75, x9, x63, x9, x79, x1, x81, x82, x82, x63, x82, x86, x75, x88, x89, x90]).getD i ud), x89, x90, h_9, by kernel_rfl, HA_9, H.1⟩, loop_lt HA_9.heap HA_7.heap (by kernel_rfl) (by kernel_rfl) H.2⟩
       ·refine wp_exit ?_
        refine then_exit ?_
        refine then_exit ?_
        refine block_exit ?_
        refine then_normal ?_
        refine fr_eq (b := ⟨([x0, x1, ud, ud, (.slice none 0 0), x5_1, ud, (D_1 0), x63, x9, ud, (D_3 0), x0, x13, x14, ud, x0, x17, x18, ud, ud, ud, ud, x1, x24, x25] ++ (Ad D 0 16 ([x0, x43, x44, x45] ++ (Ad D_1 2 13 ([x5_1, x60, x5_1, x5_1, x63, x63, x0, x66, x67, x68, x0, x70, x71, x72, x73] ++ (Ad D_3 2 17 [ud])))))).toArray, []⟩) (by kernel_rfl) ?_
        refine wp_seq (lwp_list ?_)
        refine ls_move (x := x63) (by kernel_rfl) (by kernel_rfl) ?_
        refine ls_assign (x := x63) (by kernel_rfl) (by kernel_rfl) ?_
        refine ls_nil (then_normal ?_)
        refine fr_eq (b := ⟨([x0, x1, ud, ud, x63, x5_1, ud, (D_1 0), x63, x9, ud, (D_3 0), x0, x13, x14, ud, x0, x17, x18, ud, ud, ud, ud, x1, x24, x25] ++ (Ad D 0 16 ([x0, x43, x44, x45] ++ (Ad D_1 2 13 ([x5_1, x60, x5_1, x5_1, x63, x63, x0, x66, x67, x68, x0, x70, x71, x72, x73] ++ (Ad D_3 2 17 [x63])))))).toArray, []⟩) (by kernel_rfl) ?_
        refine wp_ret ?_
        exact end1 (Try.results55) (by kernel_rfl) (by kernel_rfl) HA_7 H _ (.inr rfl)

end Go.Proofs.Ytlcklnbgknhhkaa

end

section
/- The shallow reading of one function, and that the function does it. Written by a program. -/
set_option linter.unusedVariables false
namespace Go.Proofs.Ytlcklnbgknhhkaa
open Go Go.HW

def slices_Grow_byte_byte_j2 (R : Value → Heap → Prop) (x0_1 : Value) (h_1 : Heap) : Prop :=
  R x0_1 h_1
def slices_Grow_byte_byte_j1 (R : Value → Heap → Prop) (x0 x1 : Value) (h : Heap) : Prop :=
  sCap x0 fun x10 =>
  sLen x0 fun x12 =>
  sSub .i64 x10 x12 fun x13 =>
  sSub .i64 x1 x13 fun x14 =>
  sGt x14 (.int .i64 0) fun x16 =>
  sIf x16 (sCap x0 fun x19 =>
  sSl x0 none (some x19) 1 fun x20 =>
  sAppZ h x20 x14 #[.int .u8 0] 5 1 fun x22 h_2 => 
  sLen x0 fun x24 =>
  sSl x22 none (some x24) 1 fun x25 =>
  slices_Grow_byte_byte_j2 R x25 h_2) (slices_Grow_byte_byte_j2 R x0 h)
def slices_Grow_byte_byte_S (x0 x1 : Value) (h : Heap) (R : Value → Heap → Prop) : Prop :=
  sLt x1 (.int .i64 0) fun x6 =>
  sIf x6 (False) (slices_Grow_byte_byte_j1 R x0 x1 h)
set_option maxRecDepth 100000 in
theorem slices_Grow_byte_byte_runs {x0 x1 : Value} {h : Heap} {R : Value → Heap → Prop} (H : slices_Grow_byte_byte_S x0 x1 h R) : slices_Grow_byte_byte_c x0 x1 h R := by
 unfold slices_Grow_byte_byte_S at H
 refine runs_of (b := ⟨#[x0, x1, ud, ud, ud, ud, ud, ud, ud, ud, ud, ud, ud, ud, ud, ud, ud, ud, ud, ud, ud, ud, ud, ud, ud, ud, ud], []⟩) Try.call72 Try.func72 rfl (by kernel_rfl) (fun w0 HA => ?_)
 refine wp_seq (lwp_list ?_)
 refine ls_assign (x := (.slice none 0 0)) (by kernel_rfl) (by kernel_rfl) ?_
 refine ls_nil (then_normal ?_)
 refine fr_eq (b := ⟨#[x0, x1, ud, ud, (.slice none 0 0), ud, ud, ud, ud, ud, ud, ud, ud, ud, ud, ud, ud, ud, ud, ud, ud, ud, ud, ud, ud, ud, ud], []⟩) (by kernel_rfl) ?_
 refine wp_seq ?_
 refine wp_seq (lwp_list ?_)
 refine ls_move (x := x1) (by kernel_rfl) (by kernel_rfl) ?_
 refine ls_p (d := some 6) (by kernel_rfl) (by kernel_rfl) (p_sLt (by kernel_rfl) (by kernel_rfl) H) (fun x6 H => ?_)
 refine ls_nil (then_normal ?_)
 refine fr_eq (b := ⟨#[x0, x1, ud, ud, (.slice none 0 0), x1, x6, ud, ud, ud, ud, ud, ud, ud, ud, ud, ud, ud, ud, ud, ud, ud, ud, ud, ud, ud, ud], []⟩) (by kernel_rfl) ?_
 refine wp_join (fun a w => ∃ (D : Nat → Value) (h : Heap), a = ⟨#[x0, x1, ud, ud, (.slice none 0 0), x1, x6, (D 0), ud, ud, ud, ud, ud, ud, ud, ud, ud, ud, ud, ud, ud, ud, ud, ud, ud, ud, ud], []⟩ ∧ At w0 w h ∧ slices_Grow_byte_byte_j1 R x0 x1 h) ?_ ?_
 ·refine wp_if rfl H (fun H => ?_) (fun H => ?_)
  ·exact H.elim
  ·refine wp_skip ?_
   exact ⟨(fun i => ([ud]).getD i ud), h, by kernel_rfl, HA, H⟩
 ·rintro _ w ⟨D, h, rfl, HA, H⟩
  unfold slices_Grow_byte_byte_j1 at H
  refine then_normal ?_
  refine fr_eq (b := ⟨#[x0, x1, ud, ud, (.slice none 0 0), x1, x6, (D 0), ud, ud, ud, ud, ud, ud, ud, ud, ud, ud, ud, ud, ud, ud, ud, ud, ud, ud, ud], []⟩) (by kernel_rfl) ?_
  refine wp_seq ?_
  refine wp_seq (lwp_list ?_)
  refine ls_move (x := x1) (by kernel_rfl) (by kernel_rfl) ?_
  refine ls_move (x := x0) (by kernel_rfl) (by kernel_rfl) ?_
  refine ls_p (d := some 10) (by kernel_rfl) (by kernel_rfl) (p_cap Try.underlying30 (by kernel_rfl) H) (fun x10 H => ?_)
  refine ls_move (x := x0) (by kernel_rfl) (by kernel_rfl) ?_
  refine ls_p (d := some 12) (by kernel_rfl) (by kernel_rfl) (p_len Try.underlying30 (by kernel_rfl) H) (fun x12 H => ?_)
  refine ls_p (d := some 13) (by kernel_rfl) (by kernel_rfl) (p_sub (by kernel_rfl) (by kernel_rfl) H) (fun x13 H => ?_)
  refine ls_fr (b := ⟨#[x0, x1, ud, ud, (.slice none 0 0), x1, x6, (D 0), x1, x0, x10, x0, x12, x13, ud, ud, ud, ud, ud, ud, ud, ud, ud, ud, ud, ud, ud], []⟩) (by kernel_rfl) ?_
  refine ls_p (d := some 14) (by kernel_rfl) (by kernel_rfl) (p_sub (by kernel_rfl) (by kernel_rfl) H) (fun x14 H => ?_)
  refine ls_assign (x := x14) (by kernel_rfl) (by kernel_rfl) ?_
  refine ls_nil (then_normal ?_)
  refine fr_eq (b := ⟨#[x0, x14, ud, ud, (.slice none 0 0), x1, x6, (D 0), x1, x0, x10, x0, x12, x13, x14, ud, ud, ud, ud, ud, ud, ud, ud, ud, ud, ud, ud], []⟩) (by kernel_rfl) ?_
  refine wp_seq (lwp_list ?_)
  refine ls_move (x := x14) (by kernel_rfl) (by kernel_rfl) ?_
  refine ls_p (d := some 16) (by kernel_rfl) (by kernel_rfl) (p_sGt (by kernel_rfl) (by kernel_rfl) H) (fun x16 H => ?_)
  refine ls_nil (then_normal ?_)
  refine fr_eq (b := ⟨#[x0, x14, ud, ud, (.slice none 0 0), x1, x6, (D 0), x1, x0, x10, x0, x12, x13, x14, x14, x16, ud, ud, ud, ud, ud, ud, ud, ud, ud, ud], []⟩) (by kernel_rfl) ?_
  refine wp_join (fun a w => ∃ (D_1 : Nat → Value) (x0_1 : Value) (h_1 : Heap), a = ⟨#[x0_1, x14, ud, ud, (.slice none 0 0), x1, x6, (D 0), x1, x0, x10, x0, x12, x13, x14, x14, x16, (D_1 0), (D_1 1), (D_1 2), (D_1 3), (D_1 4), (D_1 5), (D_1 6), (D_1 7), (D_1 8), ud], []⟩ ∧ At w0 w h_1 ∧ slices_Grow_byte_byte_j2 R x0_1 h_1) ?_ ?_
  ·refine wp_if rfl H (fun H => ?_) (fun H => ?_)
   ·refine lwp_list ?_
    refine ls_move (x := x0) (by kernel_rfl) (by kernel_rfl) ?_
    refine ls_move (x := x0) (by kernel_rfl) (by kernel_rfl) ?_
    refine ls_p (d := some 19) (by kernel_rfl) (by kernel_rfl) (p_cap Try.underlying30 (by kernel_rfl) H) (fun x19 H => ?_)
    refine ls_p (d := some 20) (by kernel_rfl) (by kernel_rfl) (p_sl Try.underlying30 Try.sizeOf5 (by kernel_rfl) (by kernel_rfl) (by kernel_rfl) H) (fun x20 H => ?_)
    refine ls_move (x := x14) (by kernel_rfl) (by kernel_rfl) ?_
    refine ls_d (d := some 22) (by kernel_rfl) (by kernel_rfl) HA (d_appz (z := #[.int .u8 0]) Try.underlying30 Try.underlying3 Try.typeInfo5 (by kernel_rfl) Try.sizeOf5 Try.zeroValue5 (by kernel_rfl) (by kernel_rfl) (by kernel_rfl) H) (fun x22 h_2 w_2 H HA_2 => ?_)
    refine ls_fr (b := ⟨#[x0, x14, ud, ud, (.slice none 0 0), x1, x6, (D 0), x1, x0, x10, x0, x12, x13, x14, x14, x16, x0, x0, x19, x20, x14, x22, ud, ud, ud, ud], []⟩) (by kernel_rfl) ?_
    refine ls_move (x := x0) (by kernel_rfl) (by kernel_rfl) ?_
    refine ls_p (d := some 24) (by kernel_rfl) (by kernel_rfl) (p_len Try.underlying30 (by kernel_rfl) H) (fun x24 H => ?_)
    refine ls_p (d := some 25) (by kernel_rfl) (by kernel_rfl) (p_sl Try.underlying30 Try.sizeOf5 (by kernel_rfl) (by kernel_rfl) (by kernel_rfl) H) (fun x25 H => ?_)
    refine ls_assign (x := x25) (by kernel_rfl) (by kernel_rfl) ?_
    refine ls_nil ?_
    exact ⟨(fun i => ([x0, x0, x19, x20, x14, x22, x0, x24, x25]).getD i ud), x25, h_2, by kernel_rfl, HA_2, H⟩
   ·refine wp_skip ?_
    exact ⟨(fun i => (Ap [] 9).getD i ud), x0, h, by kernel_rfl, HA, H⟩
  ·rintro _ w_1 ⟨D_1, x0_1, h_1, rfl, HA_1, H⟩
   unfold slices_Grow_byte_byte_j2 at H
   refine then_normal ?_
   refine fr_eq (b := ⟨#[x0_1, x14, ud, ud, (.slice none 0 0), x1, x6, (D 0), x1, x0, x10, x0, x12, x13, x14, x14, x16, (D_1 0), (D_1 1), (D_1 2), (D_1 3), (D_1 4), (D_1 5), (D_1 6), (D_1 7), (D_1 8), ud], []⟩) (by kernel_rfl) ?_
   refine wp_seq (lwp_list ?_)
   refine ls_move (x := x0_1) (by kernel_rfl) (by kernel_rfl) ?_
   refine ls_assign (x := x0_1) (by kernel_rfl) (by kernel_rfl) ?_
   refine ls_nil (then_normal ?_)
   refine fr_eq (b := ⟨#[x0_1, x14, ud, ud, x0_1, x1, x6, (D 0), x1, x0, x10, x0, x12, x13, x14, x14, x16, (D_1 0), (D_1 1), (D_1 2), (D_1 3), (D_1 4), (D_1 5), (D_1 6), (D_1 7), (D_1 8), x0_1], []⟩) (by kernel_rfl) ?_
   refine wp_ret ?_
   exact end1 (Try.results72) (by kernel_rfl) (by kernel_rfl) HA_1 H _ (.inr rfl)

end Go.Proofs.Ytlcklnbgknhhkaa

end

section
/- The shallow reading of one function, and that the function does it. Written by a program. -/
set_option linter.unusedVariables false
namespace Go.Proofs.Ytlcklnbgknhhkaa
open Go Go.HW

def slices_Concat_byte_byte_j2 (next : Value → Value → Heap → Prop) (x11 x3_1 : Value) (h_1 : Heap) : Prop :=
  sAdd .i64 x11 (.int .i64 1) fun x22 =>
  next x3_1 x22 h_1
def slices_Concat_byte_byte_l3 (R : Value → Heap → Prop) (x0 x26 : Value) (next : Value → Value → Heap → Prop) (x6 x27 : Value) (h_3 : Heap) : Prop :=
  sLt x27 x26 fun x28 =>
  sIf x28 (sIxS x0 x27 1 fun x29 =>
  sLd h_3 x29 fun x30 =>
  sApp h_3 x6 x30 #[.int .u8 0] 5 1 fun x33 h_4 => 
  sAdd .i64 x27 (.int .i64 1) fun x34 =>
  next x33 x34 h_4) (R x6 h_3)
def slices_Concat_byte_byte_l1 (R : Value → Heap → Prop) (x0 x10 : Value) (next : Value → Value → Heap → Prop) (x3 x11 : Value) (h : Heap) : Prop :=
  sLt x11 x10 fun x12 =>
  sIf x12 (sIxS x0 x11 1 fun x13 =>
  sLd h x13 fun x14 =>
  sLen x14 fun x17 =>
  sAdd .i64 x3 x17 fun x18 =>
  sLt x18 (.int .i64 0) fun x20 =>
  sIf x20 (False) (slices_Concat_byte_byte_j2 next x11 x18 h)) (slices_Grow_byte_byte_c (.slice none 0 0) x3 h fun x24 h_2 => 
  sLen x0 fun x26 =>
  sLoop (S := Value × Value) (fun nxt s h => slices_Concat_byte_byte_l3 R x0 x26 (fun x6' x27' h => nxt (x6', x27') h) s.1 s.2 h) (x24, (.int .i64 0)) h_2)
def slices_Concat_byte_byte_S (x0 : Value) (h : Heap) (R : Value → Heap → Prop) : Prop :=
  sLen x0 fun x10 =>
  sLoop (S := Value × Value) (fun nxt s h => slices_Concat_byte_byte_l1 R x0 x10 (fun x3' x11' h => nxt (x3', x11') h) s.1 s.2 h) ((.int .i64 0), (.int .i64 0)) h
set_option maxRecDepth 100000 in
theorem slices_Concat_byte_byte_runs {x0 : Value} {h : Heap} {R : Value → Heap → Prop} (H : slices_Concat_byte_byte_S x0 h R) : slices_Concat_byte_byte_c x0 h R := by
 unfold slices_Concat_byte_byte_S at H
 refine runs_of (b := ⟨#[x0, ud, ud, ud, ud, ud, ud, ud, ud, ud, ud, ud, ud, ud, ud, ud, ud, ud, ud, ud, ud, ud, ud, ud, ud, ud, ud, ud, ud, ud, ud, ud, ud, ud, ud, ud], []⟩) Try.call54 Try.func54 rfl (by kernel_rfl) (fun w0 HA => ?_)
 refine wp_seq (lwp_list ?_)
 refine ls_assign (x := (.slice none 0 0)) (by kernel_rfl) (by kernel_rfl) ?_
 refine ls_nil (then_normal ?_)
 refine fr_eq (b := ⟨#[x0, ud, (.slice none 0 0), ud, ud, ud, ud, ud, ud, ud, ud, ud, ud, ud, ud, ud, ud, ud, ud, ud, ud, ud, ud, ud, ud, ud, ud, ud, ud, ud, ud, ud, ud, ud, ud, ud], []⟩) (by kernel_rfl) ?_
 refine wp_seq (lwp_list ?_)
 refine ls_assign (x := (.int .i64 0)) (by kernel_rfl) (by kernel_rfl) ?_
 refine ls_nil (then_normal ?_)
 refine fr_eq (b := ⟨#[x0, ud, (.slice none 0 0), (.int .i64 0), ud, ud, ud, ud, ud, ud, ud, ud, ud, ud, ud, ud, ud, ud, ud, ud, ud, ud, ud, ud, ud, ud, ud, ud, ud, ud, ud, ud, ud, ud, ud, ud], []⟩) (by kernel_rfl) ?_
 refine wp_seq ?_
 refine wp_seq (lwp_list ?_)
 refine ls_move (x := x0) (by kernel_rfl) (by kernel_rfl) ?_
 refine ls_p (d := some 10) (by kernel_rfl) (by kernel_rfl) (p_len Try.underlying22 (by kernel_rfl) H) (fun x10 H => ?_)
 refine ls_move (x := (.int .i64 0)) (by kernel_rfl) (by kernel_rfl) ?_
 refine ls_nil (then_normal ?_)
 refine fr_eq (b := ⟨#[x0, ud, (.slice none 0 0), (.int .i64 0), ud, ud, ud, ud, ud, x0, x10, (.int .i64 0), ud, ud, ud, ud, ud, ud, ud, ud, ud, ud, ud, ud, ud, ud, ud, ud, ud, ud, ud, ud, ud, ud, ud, ud], []⟩) (by kernel_rfl) ?_
 refine wp_block ?_
 obtain ⟨I, m, H0, HB⟩ := H
 refine wp_loop (fun a w => ∃ (D : Nat → Value) (x3 x11 : Value) (h : Heap), a = ⟨#[x0, ud, (.slice none 0 0), x3, ud, (D 0), ud, ud, ud, x0, x10, x11, (D 1), (D 2), (D 3), (D 4), (D 5), (D 6), (D 7), (D 8), (D 9), (D 10), (D 11), ud, ud, ud, ud, ud, ud, ud, ud, ud, ud, ud, ud, ud], []⟩ ∧ At w0 w h ∧ I (x3, x11) h) (fun a w => m ((a.tmps.getD 3 ud), (a.tmps.getD 11 ud)) w.heap) ?_ ?_
 ·exact ⟨(fun i => (Ap [] 12).getD i ud), (.int .i64 0), (.int .i64 0), h, by kernel_rfl, HA, H0⟩
 ·rintro _ w ⟨D, x3, x11, h, rfl, HA, HI⟩
  have H : slices_Concat_byte_byte_l1 R x0 x10 (fun x3' x11' h' => I (x3', x11') h' ∧ m (x3', x11') h' < m (x3, x11) h) x3 x11 h := HB (x3, x11) h HI
  clear HB H0 HI
  unfold slices_Concat_byte_byte_l1 at H
  refine wp_seq (lwp_list ?_)
  refine ls_p (d := some 12) (by kernel_rfl) (by kernel_rfl) (p_sLt (by kernel_rfl) (by kernel_rfl) H) (fun x12 H => ?_)
  refine ls_nil (then_normal ?_)
  refine fr_eq (b := ⟨#[x0, ud, (.slice none 0 0), x3, ud, (D 0), ud, ud, ud, x0, x10, x11, x12, (D 2), (D 3), (D 4), (D 5), (D 6), (D 7), (D 8), (D 9), (D 10), (D 11), ud, ud, ud, ud, ud, ud, ud, ud, ud, ud, ud, ud, ud], []⟩) (by kernel_rfl) ?_
  refine wp_seq ?_
  refine wp_if rfl H (fun H => ?_) (fun H => ?_)
  ·refine wp_skip ?_
   refine then_normal ?_
   refine fr_eq (b := ⟨#[x0, ud, (.slice none 0 0), x3, ud, (D 0), ud, ud, ud, x0, x10, x11, x12, (D 2), (D 3), (D 4), (D 5), (D 6), (D 7), (D 8), (D 9), (D 10), (D 11), ud, ud, ud, ud, ud, ud, ud, ud, ud, ud, ud, ud, ud], []⟩) (by kernel_rfl) ?_
   refine wp_seq ?_
   refine wp_join (fun a w => ∃ (D_1 : Nat → Value) (x3_1 : Value) (h_1 : Heap), a = ⟨#[x0, ud, (.slice none 0 0), x3_1, ud, (D_1 0), ud, ud, ud, x0, x10, x11, x12, (D_1 1), (D_1 2), (D_1 3), (D_1 4), (D_1 5), (D_1 6), (D_1 7), (D_1 8), (D_1 9), (D 11), ud, ud, ud, ud, ud, ud, ud, ud, ud, ud, ud, ud, ud], []⟩ ∧ At w0 w h_1 ∧ slices_Concat_byte_byte_j2 (fun x3' x11' h' => I (x3', x11') h' ∧ m (x3', x11') h' < m (x3, x11) h) x11 x3_1 h_1) ?_ ?_
   ·refine wp_block ?_
    refine wp_seq (lwp_list ?_)
    refine ls_p (d := some 13) (by kernel_rfl) (by kernel_rfl) (p_ixs Try.underlying22 Try.sizeOf30 (by kernel_rfl) (by kernel_rfl) H) (fun x13 H => ?_)
    refine ls_y (d := some 14) (by kernel_rfl) (by kernel_rfl) HA (y_ld Try.isAgg30 (by kernel_rfl) H) (fun x14 H => ?_)
    refine ls_assign (x := x14) (by kernel_rfl) (by kernel_rfl) ?_
    refine ls_nil (then_normal ?_)
    refine fr_eq (b := ⟨#[x0, ud, (.slice none 0 0), x3, ud, x14, ud, ud, ud, x0, x10, x11, x12, x13, x14, (D 4), (D 5), (D 6), (D 7), (D 8), (D 9), (D 10), (D 11), ud, ud, ud, ud, ud, ud, ud, ud, ud, ud, ud, ud, ud], []⟩) (by kernel_rfl) ?_
    refine wp_seq (lwp_list ?_)
    refine ls_move (x := x3) (by kernel_rfl) (by kernel_rfl) ?_
    refine ls_move (x := x14) (by kernel_rfl) (by kernel_rfl) ?_
    refine ls_p (d := some 17) (by kernel_rfl) (by kernel_rfl) (p_len Try.underlying30 (by kernel_rfl) H) (fun x17 H => ?_)
    refine ls_p (d := some 18) (by kernel_rfl) (by kernel_rfl) (p_add (by kernel_rfl) (by kernel_rfl) H) (fun x18 H => ?_)
    refine ls_assign (x := x18) (by kernel_rfl) (by kernel_rfl) ?_
    refine ls_nil (then_normal ?_)
    refine fr_eq (b := ⟨#[x0, ud, (.slice none 0 0), x18, ud, x14, ud, ud, ud, x0, x10, x11, x12, x13, x14, x3, x14, x17, x18, (D 8), (D 9), (D 10), (D 11), ud, ud, ud, ud, ud, ud, ud, ud, ud, ud, ud, ud, ud], []⟩) (by kernel_rfl) ?_
    refine wp_seq (lwp_list ?_)
    refine ls_move (x := x18) (by kernel_rfl) (by kernel_rfl) ?_
    refine ls_p (d := some 20) (by kernel_rfl) (by kernel_rfl) (p_sLt (by kernel_rfl) (by kernel_rfl) H) (fun x20 H => ?_)
    refine ls_nil (then_normal ?_)
    refine fr_eq (b := ⟨#[x0, ud, (.slice none 0 0), x18, ud, x14, ud, ud, ud, x0, x10, x11, x12, x13, x14, x3, x14, x17, x18, x18, x20, (D 10), (D 11), ud, ud, ud, ud, ud, ud, ud, ud, ud, ud, ud, ud, ud], []⟩) (by kernel_rfl) ?_
    refine wp_if rfl H (fun H => ?_) (fun H => ?_)
    ·exact H.elim
    ·refine wp_skip ?_
     refine block_normal ?_
     exact ⟨(fun i => ([x14, x13, x14, x3, x14, x17, x18, x18, x20, (D 10)]).getD i ud), x18, h, by kernel_rfl, HA, H⟩
   ·rintro _ w_1 ⟨D_1, x3_1, h_1, rfl, HA_1, H⟩
    unfold slices_Concat_byte_byte_j2 at H
    refine then_normal ?_
    refine fr_eq (b := ⟨#[x0, ud, (.slice none 0 0), x3_1, ud, (D_1 0), ud, ud, ud, x0, x10, x11, x12, (D_1 1), (D_1 2), (D_1 3), (D_1 4), (D_1 5), (D_1 6), (D_1 7), (D_1 8), (D_1 9), (D 11), ud, ud, ud, ud, ud, ud, ud, ud, ud, ud, ud, ud, ud], []⟩) (by kernel_rfl) ?_
    refine lwp_list ?_
    refine ls_p (d := some 22) (by kernel_rfl) (by kernel_rfl) (p_add (by kernel_rfl) (by kernel_rfl) H) (fun x22 H => ?_)
    refine ls_move (x := x22) (by kernel_rfl) (by kernel_rfl) ?_
    refine ls_nil ?_
    exact ⟨⟨(fun i => ([(D_1 0), x12] ++ (Ad D_1 1 9 [x22])).getD i ud), x3_1, x22, h_1, by kernel_rfl, HA_1, H.1⟩, loop_lt HA_1.heap HA.heap (by kernel_rfl) (by kernel_rfl) H.2⟩
  ·refine wp_exit ?_
   refine then_exit ?_
   refine then_exit ?_
   refine block_exit ?_
   refine then_normal ?_
   refine fr_eq (b := ⟨#[x0, ud, (.slice none 0 0), x3, ud, (D 0), ud, ud, ud, x0, x10, x11, x12, (D 2), (D 3), (D 4), (D 5), (D 6), (D 7), (D 8), (D 9), (D 10), (D 11), ud, ud, ud, ud, ud, ud, ud, ud, ud, ud, ud, ud, ud], []⟩) (by kernel_rfl) ?_
   refine wp_seq (lwp_list ?_)
   refine ls_move (x := x3) (by kernel_rfl) (by kernel_rfl) ?_
   refine ls_d (d := some 24) (by kernel_rfl) (by kernel_rfl) HA (d_call (by kernel_rfl) (by kernel_rfl) H) (fun x24 h_2 w_2 H HA_2 => ?_)
   refine ls_assign (x := x24) (by kernel_rfl) (by kernel_rfl) ?_
   refine ls_nil (then_normal ?_)
   refine fr_eq (b := ⟨#[x0, ud, (.slice none 0 0), x3, ud, (D 0), x24, ud, ud, x0, x10, x11, x12, (D 2), (D 3), (D 4), (D 5), (D 6), (D 7), (D 8), (D 9), (D 10), (D 11), x3, x24, ud, ud, ud, ud, ud, ud, ud, ud, ud, ud, ud], []⟩) (by kernel_rfl) ?_
   refine wp_seq ?_
   refine wp_seq (lwp_list ?_)
   refine ls_move (x := x0) (by kernel_rfl) (by kernel_rfl) ?_
   refine ls_p (d := some 26) (by kernel_rfl) (by kernel_rfl) (p_len Try.underlying22 (by kernel_rfl) H) (fun x26 H => ?_)
   refine ls_move (x := (.int .i64 0)) (by kernel_rfl) (by kernel_rfl) ?_
   refine ls_nil (then_normal ?_)
   refine fr_eq (b := ⟨#[x0, ud, (.slice none 0 0), x3, ud, (D 0), x24, ud, ud, x0, x10, x11, x12, (D 2), (D 3), (D 4), (D 5), (D 6), (D 7), (D 8), (D 9), (D 10), (D 11), x3, x24, x0, x26, (.int .i64 0), ud, ud, ud, ud, ud, ud, ud, ud], []⟩) (by kernel_rfl) ?_
   refine wp_block ?_
   obtain ⟨I_1, m_1, H0, HB⟩ := H
   refine wp_loop (fun a w => ∃ (D_2 : Nat → Value) (x6 x27 : Value) (h_3 : Heap), a = ⟨#[x0, ud, (.slice none 0 0), x3, ud, (D 0), x6, ud, (D_2 0), x0, x10, x11, x12, (D 2), (D 3), (D 4), (D 5), (D 6), (D 7), (D 8), (D 9), (D 10), (D 11), x3, x24, x0, x26, x27, (D_2 1), (D_2 2), (D_2 3), (D_2 4), (D_2 5), (D_2 6), (D_2 7), ud], []⟩ ∧ At w0 w h_3 ∧ I_1 (x6, x27) h_3) (fun a w => m_1 ((a.tmps.getD 6 ud), (a.tmps.getD 27 ud)) w.heap) ?_ ?_
   ·exact ⟨(fun i => (Ap [] 8).getD i ud), x24, (.int .i64 0), h_2, by kernel_rfl, HA_2, H0⟩
   ·rintro _ w_3 ⟨D_2, x6, x27, h_3, rfl, HA_3, HI⟩
    have H : slices_Concat_byte_byte_l3 R x0 x26 (fun x6' x27' h' => I_1 (x6', x27') h' ∧ m_1 (x6', x27') h' < m_1 (x6, x27) h_3) x6 x27 h_3 := HB (x6, x27) h_3 HI
    clear HB H0 HI
    unfold slices_Concat_byte_byte_l3 at H
    refine wp_seq (lwp_list ?_)
    refine ls_p (d := some 28) (by kernel_rfl) (by kernel_rfl) (p_sLt (by kernel_rfl) (by kernel_rfl) H) (fun x28 H => ?_)
    refine ls_nil (then_normal ?_)
    refine fr_eq (b := ⟨#[x0, ud, (.slice none 0 0), x3, ud, (D 0), x6, ud, (D_2 0), x0, x10, x11, x12, (D 2), (D 3), (D 4), (D 5), (D 6), (D 7), (D 8), (D 9), (D 10), (D 11), x3, x24, x0, x26, x27, x28, (D_2 2), (D_2 3), (D_2 4), (D_2 5), (D_2 6), (D_2 7), ud], []⟩) (by kernel_rfl) ?_
    refine wp_seq ?_
    refine wp_if rfl H (fun H => ?_) (fun H => ?_)
    ·refine wp_skip ?_
     refine then_normal ?_
     refine fr_eq (b := ⟨#[x0, ud, (.slice none 0 0), x3, ud, (D 0), x6, ud, (D_2 0), x0, x10, x11, x12, (D 2), (D 3), (D 4), (D 5), (D 6), (D 7), (D 8), (D 9), (D 10), (D 11), x3, x24, x0, x26, x27, x28, (D_2 2), (D_2 3), (D_2 4), (D_2 5), (D_2 6), (D_2 7), ud], []⟩) (by kernel_rfl) ?_
     refine wp_seq ?_
     refine wp_block ?_
     refine wp_seq (lwp_list ?_)
     refine ls_p (d := some 29) (by kernel_rfl) (by kernel_rfl) (p_ixs Try.underlying22 Try.sizeOf30 (by kernel_rfl) (by kernel_rfl) H) (fun x29 H => ?_)
     refine ls_y (d := some 30) (by kernel_rfl) (by kernel_rfl) HA_3 (y_ld Try.isAgg30 (by kernel_rfl) H) (fun x30 H => ?_)
     refine ls_assign (x := x30) (by kernel_rfl) (by kernel_rfl) ?_
     refine ls_nil (then_normal ?_)
     refine fr_eq (b := ⟨#[x0, ud, (.slice none 0 0), x3, ud, (D 0), x6, ud, x30, x0, x10, x11, x12, (D 2), (D 3), (D 4), (D 5), (D 6), (D 7), (D 8), (D 9), (D 10), (D 11), x3, x24, x0, x26, x27, x28, x29, x30, (D_2 4), (D_2 5), (D_2 6), (D_2 7), ud], []⟩) (by kernel_rfl) ?_
     refine lwp_list ?_
     refine ls_move (x := x6) (by kernel_rfl) (by kernel_rfl) ?_
     refine ls_move (x := x30) (by kernel_rfl) (by kernel_rfl) ?_
     refine ls_d (d := some 33) (by kernel_rfl) (by kernel_rfl) HA_3 (d_app (z := #[.int .u8 0]) Try.underlying30 Try.underlying30 (.inl ⟨_, rfl⟩) Try.typeInfo5 (by kernel_rfl) Try.sizeOf5 Try.zeroValue5 (by kernel_rfl) (by kernel_rfl) (by kernel_rfl) H) (fun x33 h_4 w_4 H HA_4 => ?_)
     refine ls_assign (x := x33) (by kernel_rfl) (by kernel_rfl) ?_
     refine ls_nil ?_
     refine block_normal ?_
     refine then_normal ?_
     refine fr_eq (b := ⟨#[x0, ud, (.slice none 0 0), x3, ud, (D 0), x33, ud, x30, x0, x10, x11, x12, (D 2), (D 3), (D 4), (D 5), (D 6), (D 7), (D 8), (D 9), (D 10), (D 11), x3, x24, x0, x26, x27, x28, x29, x30, x6, x30, x33, (D_2 7), ud], []⟩) (by kernel_rfl) ?_
     refine lwp_list ?_
     refine ls_p (d := some 34) (by kernel_rfl) (by kernel_rfl) (p_add (by kernel_rfl) (by kernel_rfl) H) (fun x34 H => ?_)
     refine ls_move (x := x34) (by kernel_rfl) (by kernel_rfl) ?_
     refine ls_nil ?_
     exact ⟨⟨(fun i => ([x30, x28, x29, x30, x6, x30, x33, x34]).getD i ud), x33, x34, h_4, by kernel_rfl, HA_4, H.1⟩, loop_lt HA_4.heap HA_3.heap (by kernel_rfl) (by kernel_rfl) H.2⟩
    ·refine wp_exit ?_
     refine then_exit ?_
     refine then_exit ?_
     refine block_exit ?_
     refine then_normal ?_
     refine fr_eq (b := ⟨#[x0, ud, (.slice none 0 0), x3, ud, (D 0), x6, ud, (D_2 0), x0, x10, x11, x12, (D 2), (D 3), (D 4), (D 5), (D 6), (D 7), (D 8), (D 9), (D 10), (D 11), x3, x24, x0, x26, x27, x28, (D_2 2), (D_2 3), (D_2 4), (D_2 5), (D_2 6), (D_2 7), ud], []⟩) (by kernel_rfl) ?_
     refine wp_seq (lwp_list ?_)
     refine ls_move (x := x6) (by kernel_rfl) (by kernel_rfl) ?_
     refine ls_assign (x := x6) (by kernel_rfl) (by kernel_rfl) ?_
     refine ls_nil (then_normal ?_)
     refine fr_eq (b := ⟨#[x0, ud, x6, x3, ud, (D 0), x6, ud, (D_2 0), x0, x10, x11, x12, (D 2), (D 3), (D 4), (D 5), (D 6), (D 7), (D 8), (D 9), (D 10), (D 11), x3, x24, x0, x26, x27, x28, (D_2 2), (D_2 3), (D_2 4), (D_2 5), (D_2 6), (D_2 7), x6], []⟩) (by kernel_rfl) ?_
     refine wp_ret ?_
     exact end1 (Try.results54) (by kernel_rfl) (by kernel_rfl) HA_3 H _ (.inr rfl)

end Go.Proofs.Ytlcklnbgknhhkaa

end

section
/- The shallow reading of one function, and that the function does it. Written by a program. -/
set_option linter.unusedVariables false
namespace Go.Proofs.Ytlcklnbgknhhkaa
open Go Go.HW

def ldisc_Disc_Set_j1 (R : Value → Heap → Prop) (h_4 : Heap) : Prop :=
  R (.bool true) h_4
def ldisc_Disc_Set_S (x0 x1 : Value) (h : Heap) (R : Value → Heap → Prop) : Prop :=
  sBox h x1 28 fun x3 h => 
  sLdN h x3 17 fun x8 =>
  termios_Right_c x8 h fun x9 h_1 => 
  sNot x9 fun x10 =>
  sIf x10 (R (.bool false) h_1) (∃ C : Heap → Prop, C h_1 ∧ (ldisc_Disc_local_c x0 (.int .i64 1) h_1 fun x12 h_2 => C h_2 ∧ (
  sOff x3 2 fun x13 =>
  sLdC C x13 fun x14 =>
  sBits .and .i64 x14 (.int .i64 1) fun x15 =>
  sNe x15 (.int .i64 0) fun x16 =>
  sLdN h_2 x3 17 fun x18 =>
  sNil x0 fun x19 =>
  sOff x19 0 fun x20 =>
  sStN h_2 x20 x18 17 fun h_3 => 
  sNeqB x12 x16 fun x23 =>
  sIf x23 (∃ C_1 : Heap → Prop, C_1 h_3 ∧ (sNil x0 fun x25 =>
  sOff x25 19 fun x26 =>
  sLdC C_1 x26 fun x27 =>
  sNil x0 fun x29 =>
  sOff x29 18 fun x30 =>
  sLd h_3 x30 fun x31 =>
  bytes_Join_c x31 (.slice none 0 0) h_3 fun x32 h_5 => C_1 h_5 ∧ (
  sNil x0 fun x34 =>
  sOff x34 17 fun x35 =>
  sLdC C_1 x35 fun x36 =>
  sSlit h_5 #[.slice none 0 0, .slice none 0 0, .slice none 0 0] [(0, 1, x27), (1, 1, x32), (2, 1, x36)] 30 3 fun x37 h_6 => 
  slices_Concat_byte_byte_c x37 h_6 fun x38 h_7 => 
  sNil x0 fun x42 =>
  sOff x42 19 fun x43 =>
  sSt h_7 x43 (.slice none 0 0) fun h_8 => 
  sNil x0 fun x44 =>
  sOff x44 18 fun x45 =>
  sSt h_8 x45 (.slice none 0 0) fun h_9 => 
  sNil x0 fun x46 =>
  sOff x46 17 fun x47 =>
  sSt h_9 x47 (.slice none 0 0) fun h_10 => 
  sIf x16 (sLen x38 fun x52 =>
  sMin x52 (.int .i64 254) fun x53 =>
  sSl x38 none (some x53) 1 fun x54 =>
  sNil x0 fun x55 =>
  sOff x55 17 fun x56 =>
  sSt h_10 x56 x54 fun h_11 => 
  ldisc_Disc_Set_j1 R h_11) (sNil x0 fun x59 =>
  sOff x59 19 fun x60 =>
  sSt h_10 x60 x38 fun h_12 => 
  ldisc_Disc_Set_j1 R h_12)))) (ldisc_Disc_Set_j1 R h_3))))
set_option maxRecDepth 100000 in
theorem ldisc_Disc_Set_runs {x0 x1 : Value} {h : Heap} {R : Value → Heap → Prop} (H : ldisc_Disc_Set_S x0 x1 h R) : ldisc_Disc_Set_c x0 x1 h R := by
 unfold ldisc_Disc_Set_S at H
 refine runs_of (b := ⟨(Ap [x0, x1] 59).toArray, []⟩) Try.call25 Try.func25 rfl (by kernel_rfl) (fun w0 HA => ?_)
 refine wp_seq (lwp_list ?_)
 refine ls_d (d := some 3) (by kernel_rfl) (by kernel_rfl) HA (d_box (by kernel_rfl) H) (fun x3 h w H HA => ?_)
 refine ls_assign (x := (.bool false)) (by kernel_rfl) (by kernel_rfl) ?_
 refine ls_nil (then_normal ?_)
 refine fr_eq (b := ⟨(Ap [x0, x1, ud, x3, (.bool false)] 56).toArray, []⟩) (by kernel_rfl) ?_
 refine wp_seq ?_
 refine wp_seq (lwp_list ?_)
 refine ls_y (d := some 8) (by kernel_rfl) (by kernel_rfl) HA (y_ldn Try.isAgg28 Try.sizeOf28 (by kernel_rfl) H) (fun x8 H => ?_)
 refine ls_d (d := some 9) (by kernel_rfl) (by kernel_rfl) HA (d_call (by kernel_rfl) (by kernel_rfl) H) (fun x9 h_1 w_1 H HA_1 => ?_)
 refine ls_p (d := some 10) (by kernel_rfl) (by kernel_rfl) (p_not (by kernel_rfl) H) (fun x10 H => ?_)
 refine ls_nil (then_normal ?_)
 refine fr_eq (b := ⟨(Ap [x0, x1, ud, x3, (.bool false), ud, ud, ud, x8, x9, x10] 50).toArray, []⟩) (by kernel_rfl) ?_
 refine wp_if rfl H (fun H => ?_) (fun H => ?_)
 ·refine wp_seq (lwp_list ?_)
  refine ls_assign (x := (.bool false)) (by kernel_rfl) (by kernel_rfl) ?_
  refine ls_nil (then_normal ?_)
  refine fr_eq (b := ⟨(Ap [x0, x1, ud, x3, (.bool false), ud, ud, ud, x8, x9, x10] 50).toArray, []⟩) (by kernel_rfl) ?_
  refine wp_ret ?_
  refine then_ret ?_
  exact end1 (Try.results25) (by kernel_rfl) (by kernel_rfl) HA_1 H _ (.inr rfl)
 ·refine wp_skip ?_
  refine then_normal ?_
  refine fr_eq (b := ⟨(Ap [x0, x1, ud, x3, (.bool false), ud, ud, ud, x8, x9, x10] 50).toArray, []⟩) (by kernel_rfl) ?_
  refine wp_seq ?_
  obtain ⟨C, HC, H⟩ := H
  refine lwp_mx (Nat.testBit 2) (Nat.testBit 2) (Nat.testBit 245) [0, 1, 0, 4, 12, 28, 3, 127] (Nat.testBit 0) C [0, 1, 2, 3, 4, 5, 6, 7] (by kernel_rfl) (by kernel_rfl) (by kernel_rfl) (by kernel_rfl) HA_1 HC ?_
  intro w_2 HA_2
  refine lm_al (x := x0) (d := some 11) (by kernel_rfl) rfl (by kernel_rfl) (by kernel_rfl) (al_move (by kernel_rfl)) ?_
  refine lm_dc (d := some 12) (by kernel_rfl) rfl (by kernel_rfl) (by kernel_rfl) (by kernel_rfl) HA_2 (d_call (by kernel_rfl) (by kernel_rfl) H) (fun x12 h_2 w_3 H HA_3 => ?_)
  refine lm_p (d := some 13) (by kernel_rfl) rfl (by kernel_rfl) (by kernel_rfl) (p_off Try.underlying28 rfl (fun w => ⟨_, Try.sizeOf3 w⟩) rfl (by kernel_rfl) H) (fun x13 H => ?_)
  refine lm_f (d := some 14) (by kernel_rfl) rfl (by kernel_rfl) (by kernel_rfl) (by kernel_rfl) (by kernel_rfl) (c_ld Try.isAgg3 (by kernel_rfl) H) (fun x14 H => ?_)
  refine lm_p (d := some 15) (by kernel_rfl) rfl (by kernel_rfl) (by kernel_rfl) (p_bits (by decide) (by kernel_rfl) (by kernel_rfl) H) (fun x15 H => ?_)
  refine lm_p (d := some 16) (by kernel_rfl) rfl (by kernel_rfl) (by kernel_rfl) (p_sNe (by kernel_rfl) (by kernel_rfl) H) (fun x16 H => ?_)
  refine lm_fr (b := ⟨(Ap [x0, x1, ud, x3, (.bool false), ud, ud, ud, x8, x9, x10, x0, x12, x13, x14, x15, x16] 44).toArray, []⟩) (by kernel_rfl) ?_
  refine lm_al (x := x12) (d := some 5) (by kernel_rfl) rfl (by kernel_rfl) (by kernel_rfl) (al_assign (by kernel_rfl)) ?_
  refine lm_al (x := x16) (d := some 6) (by kernel_rfl) rfl (by kernel_rfl) (by kernel_rfl) (al_assign (by kernel_rfl)) ?_
  refine lm_nil ?_
  refine then_normal ?_
  refine fr_eq (b := ⟨(Ap [x0, x1, ud, x3, (.bool false), x12, x16, ud, x8, x9, x10, x0, x12, x13, x14, x15, x16] 44).toArray, []⟩) (by kernel_rfl) ?_
  refine wp_seq (lwp_list ?_)
  refine ls_move (x := x0) (by kernel_rfl) (by kernel_rfl) ?_
  refine ls_y (d := some 18) (by kernel_rfl) (by kernel_rfl) HA_3 (y_ldn Try.isAgg28 Try.sizeOf28 (by kernel_rfl) H) (fun x18 H => ?_)
  refine ls_p (d := some 19) (by kernel_rfl) (by kernel_rfl) (p_nil (by kernel_rfl) H) (fun x19 H => ?_)
  refine ls_p (d := some 20) (by kernel_rfl) (by kernel_rfl) (p_off Try.underlying72 rfl (fun w => ⟨_, Try.sizeOf28 w⟩) rfl (by kernel_rfl) H) (fun x20 H => ?_)
  refine ls_d (d := none) (by kernel_rfl) (by kernel_rfl) HA_3 (d_stn Try.sizeOf28 (by kernel_rfl) (by kernel_rfl) H) (fun _ h_3 w_4 H HA_4 => ?_)
  refine ls_nil (then_normal ?_)
  refine fr_eq (b := ⟨(Ap [x0, x1, ud, x3, (.bool false), x12, x16, ud, x8, x9, x10, x0, x12, x13, x14, x15, x16, x0, x18, x19, x20] 40).toArray, []⟩) (by kernel_rfl) ?_
  refine wp_seq ?_
  refine wp_seq (lwp_list ?_)
  refine ls_move (x := x12) (by kernel_rfl) (by kernel_rfl) ?_
  refine ls_move (x := x16) (by kernel_rfl) (by kernel_rfl) ?_
  refine ls_p (d := some 23) (by kernel_rfl) (by kernel_rfl) (p_neqB Try.underlying4 (by kernel_rfl) (by kernel_rfl) H) (fun x23 H => ?_)
  refine ls_nil (then_normal ?_)
  refine fr_eq (b := ⟨(Ap [x0, x1, ud, x3, (.bool false), x12, x16, ud, x8, x9, x10, x0, x12, x13, x14, x15, x16, x0, x18, x19, x20, x12, x16, x23] 37).toArray, []⟩) (by kernel_rfl) ?_
  refine wp_join (fun a w => ∃ (D : Nat → Value) (h_4 : Heap), a = ⟨([x0, x1, ud, x3, (.bool false), x12, x16, (D 0), x8, x9, x10, x0, x12, x13, x14, x15, x16, x0, x18, x19, x20, x12, x16, x23] ++ (Ad D 1 37 [])).toArray, []⟩ ∧ At w0 w h_4 ∧ ldisc_Disc_Set_j1 R h_4) ?_ ?_
  ·refine wp_if rfl H (fun H => ?_) (fun H => ?_)
   ·refine wp_seq ?_
    obtain ⟨C_1, HC, H⟩ := H
    refine lwp_mx (Nat.testBit 24832) (Nat.testBit 256) (Nat.testBit 36471) [0, 1, 3, 7, 0, 16, 48, 112, 240, 0, 512, 1536, 3584, 8191, 16383, 32767] (Nat.testBit 128) C_1 [0, 1, 2, 3, 4, 5, 6, 7, 8, 9, 10, 11, 12, 13, 14, 15] (by kernel_rfl) (by kernel_rfl) (by kernel_rfl) (by kernel_rfl) HA_4 HC ?_
    intro w_6 HA_6
    refine lm_al (x := x0) (d := some 24) (by kernel_rfl) rfl (by kernel_rfl) (by kernel_rfl) (al_move (by kernel_rfl)) ?_
    refine lm_p (d := some 25) (by kernel_rfl) rfl (by kernel_rfl) (by kernel_rfl) (p_nil (by kernel_rfl) H) (fun x25 H => ?_)
    refine lm_p (d := some 26) (by kernel_rfl) rfl (by kernel_rfl) (by kernel_rfl) (p_off Try.underlying72 rfl (fun w => ⟨_, Try.sizeOf30 w⟩) rfl (by kernel_rfl) H) (fun x26 H => ?_)
    refine lm_f (d := some 27) (by kernel_rfl) rfl (by kernel_rfl) (by kernel_rfl) (by kernel_rfl) (by kernel_rfl) (c_ld Try.isAgg30 (by kernel_rfl) H) (fun x27 H => ?_)
    refine lm_al (x := x0) (d := some 28) (by kernel_rfl) rfl (by kernel_rfl) (by kernel_rfl) (al_move (by kernel_rfl)) ?_
    refine lm_p (d := some 29) (by kernel_rfl) rfl (by kernel_rfl) (by kernel_rfl) (p_nil (by kernel_rfl) H) (fun x29 H => ?_)
    refine lm_fr (b := ⟨(Ap [x0, x1, ud, x3, (.bool false), x12, x16, ud, x8, x9, x10, x0, x12, x13, x14, x15, x16, x0, x18, x19, x20, x12, x16, x23, x0, x25, x26, x27, x0, x29] 31).toArray, []⟩) (by kernel_rfl) ?_
    refine lm_p (d := some 30) (by kernel_rfl) rfl (by kernel_rfl) (by kernel_rfl) (p_off Try.underlying72 rfl (fun w => ⟨_, Try.sizeOf22 w⟩) rfl (by kernel_rfl) H) (fun x30 H => ?_)
    refine lm_b (d := some 31) (by kernel_rfl) rfl (by kernel_rfl) (by kernel_rfl) (by kernel_rfl) (by kernel_rfl) (y_ld Try.isAgg22 (by kernel_rfl) H) (fun x31 H => ?_)
    refine lm_dc (d := some 32) (by kernel_rfl) rfl (by kernel_rfl) (by kernel_rfl) (by kernel_rfl) HA_6 (d_call (by kernel_rfl) (by kernel_rfl) H) (fun x32 h_5 w_7 H HA_7 => ?_)
    refine lm_al (x := x0) (d := some 33) (by kernel_rfl) rfl (by kernel_rfl) (by kernel_rfl) (al_move (by kernel_rfl)) ?_
    refine lm_p (d := some 34) (by kernel_rfl) rfl (by kernel_rfl) (by kernel_rfl) (p_nil (by kernel_rfl) H) (fun x34 H => ?_)
    refine lm_p (d := some 35) (by kernel_rfl) rfl (by kernel_rfl) (by kernel_rfl) (p_off Try.underlying72 rfl (fun w => ⟨_, Try.sizeOf30 w⟩) rfl (by kernel_rfl) H) (fun x35 H => ?_)
    refine lm_fr (b := ⟨(Ap [x0, x1, ud, x3, (.bool false), x12, x16, ud, x8, x9, x10, x0, x12, x13, x14, x15, x16, x0, x18, x19, x20, x12, x16, x23, x0, x25, x26, x27, x0, x29, x30, x31, x32, x0, x34, x35] 25).toArray, []⟩) (by kernel_rfl) ?_
    refine lm_f (d := some 36) (by kernel_rfl) rfl (by kernel_rfl) (by kernel_rfl) (by kernel_rfl) (by kernel_rfl) (c_ld Try.isAgg30 (by kernel_rfl) H) (fun x36 H => ?_)
    refine lm_d (d := some 37) (by kernel_rfl) rfl (by kernel_rfl) (by kernel_rfl) (by kernel_rfl) HA_7 (d_slit (zc := #[.slice none 0 0]) Try.underlying22 Try.sizeOf30 (by decide) (.inr ⟨by decide, _, Try.zeroValue30, (by kernel_rfl)⟩) (by kernel_rfl) (by kernel_rfl) H) (fun x37 h_6 w_8 H HA_8 => ?_)
    refine lm_d (d := some 38) (by kernel_rfl) rfl (by kernel_rfl) (by kernel_rfl) (by kernel_rfl) HA_8 (d_call (by kernel_rfl) (by kernel_rfl) H) (fun x38 h_7 w_9 H HA_9 => ?_)
    refine lm_al (x := x38) (d := some 7) (by kernel_rfl) rfl (by kernel_rfl) (by kernel_rfl) (al_assign (by kernel_rfl)) ?_
    refine lm_nil ?_
    refine then_normal ?_
    refine fr_eq (b := ⟨(Ap [x0, x1, ud, x3, (.bool false), x12, x16, x38, x8, x9, x10, x0, x12, x13, x14, x15, x16, x0, x18, x19, x20, x12, x16, x23, x0, x25, x26, x27, x0, x29, x30, x31, x32, x0, x34, x35, x36, x37, x38] 22).toArray, []⟩) (by kernel_rfl) ?_
    refine wp_seq (lwp_list ?_)
    refine ls_move (x := x0) (by kernel_rfl) (by kernel_rfl) ?_
    refine ls_move (x := x0) (by kernel_rfl) (by kernel_rfl) ?_
    refine ls_move (x := x0) (by kernel_rfl) (by kernel_rfl) ?_
    refine ls_p (d := some 42) (by kernel_rfl) (by kernel_rfl) (p_nil (by kernel_rfl) H) (fun x42 H => ?_)
    refine ls_p (d := some 43) (by kernel_rfl) (by kernel_rfl) (p_off Try.underlying72 rfl (fun w => ⟨_, Try.sizeOf30 w⟩) rfl (by kernel_rfl) H) (fun x43 H => ?_)
    refine ls_d (d := none) (by kernel_rfl) (by kernel_rfl) HA_9 (d_st Try.sizeOf30 (by kernel_rfl) (by kernel_rfl) H) (fun _ h_8 w_10 H HA_10 => ?_)
    refine ls_fr (b := ⟨(Ap [x0, x1, ud, x3, (.bool false), x12, x16, x38, x8, x9, x10, x0, x12, x13, x14, x15, x16, x0, x18, x19, x20, x12, x16, x23, x0, x25, x26, x27, x0, x29, x30, x31, x32, x0, x34, x35, x36, x37, x38, x0, x0, x0, x42, x43] 17).toArray, []⟩) (by kernel_rfl) ?_
    refine ls_p (d := some 44) (by kernel_rfl) (by kernel_rfl) (p_nil (by kernel_rfl) H) (fun x44 H => ?_)
    refine ls_p (d := some 45) (by kernel_rfl) (by kernel_rfl) (p_off Try.underlying72 rfl (fun w => ⟨_, Try.sizeOf22 w⟩) rfl (by kernel_rfl) H) (fun x45 H => ?_)
    refine ls_d (d := none) (by kernel_rfl) (by kernel_rfl) HA_10 (d_st Try.sizeOf22 (by kernel_rfl) (by kernel_rfl) H) (fun _ h_9 w_11 H HA_11 => ?_)
    refine ls_p (d := some 46) (by kernel_rfl) (by kernel_rfl) (p_nil (by kernel_rfl) H) (fun x46 H => ?_)
    refine ls_p (d := some 47) (by kernel_rfl) (by kernel_rfl) (p_off Try.underlying72 rfl (fun w => ⟨_, Try.sizeOf30 w⟩) rfl (by kernel_rfl) H) (fun x47 H => ?_)
    refine ls_d (d := none) (by kernel_rfl) (by kernel_rfl) HA_11 (d_st Try.sizeOf30 (by kernel_rfl) (by kernel_rfl) H) (fun _ h_10 w_12 H HA_12 => ?_)
    refine ls_nil (then_normal ?_)
    refine fr_eq (b := ⟨(Ap [x0, x1, ud, x3, (.bool false), x12, x16, x38, x8, x9, x10, x0, x12, x13, x14, x15, x16, x0, x18, x19, x20, x12, x16, x23, x0, x25, x26, x27, x0, x29, x30, x31, x32, x0, x34, x35, x36, x37, x38, x0, x0, x0, x42, x43, x44, x45, x46, x47] 13).toArray, []⟩) (by kernel_rfl) ?_
    refine wp_seq (lwp_list ?_)
    refine ls_move (x := x16) (by kernel_rfl) (by kernel_rfl) ?_
    refine ls_nil (then_normal ?_)
    refine fr_eq (b := ⟨(Ap ([x0, x1, ud, x3, (.bool false), x12, x16, x38, x8, x9, x10, x0, x12, x13, x14, x15, x16, x0, x18, x19, x20, x12, x16, x23, x0, x25, x26, x27, x0, x29, x30, x31, x32, x0, x34, x35, x36, x37, x38, x0, x0, x0, x42, x43, x44, x45, x46, x47] ++ [x16]) 12).toArray, []⟩) (by kernel_rfl) ?_
    refine wp_if rfl H (fun H => ?_) (fun H => ?_)
    ·refine lwp_list ?_
     refine ls_move (x := x0) (by kernel_rfl) (by kernel_rfl) ?_
     refine ls_move (x := x38) (by kernel_rfl) (by kernel_rfl) ?_
     refine ls_move (x := x38) (by kernel_rfl) (by kernel_rfl) ?_
     refine ls_p (d := some 52) (by kernel_rfl) (by kernel_rfl) (p_len Try.underlying30 (by kernel_rfl) H) (fun x52 H => ?_)
     refine ls_p (d := some 53) (by kernel_rfl) (by kernel_rfl) (p_min (by kernel_rfl) (by kernel_rfl) H) (fun x53 H => ?_)
     refine ls_p (d := some 54) (by kernel_rfl) (by kernel_rfl) (p_sl Try.underlying30 Try.sizeOf5 (by kernel_rfl) (by kernel_rfl) (by kernel_rfl) H) (fun x54 H => ?_)
     refine ls_fr (b := ⟨(Ap ([x0, x1, ud, x3, (.bool false), x12, x16, x38, x8, x9, x10, x0, x12, x13, x14, x15, x16, x0, x18, x19, x20, x12, x16, x23, x0, x25, x26, x27, x0, x29, x30, x31, x32, x0, x34, x35, x36, x37, x38, x0, x0, x0, x42, x43, x44, x45, x46, x47] ++ [x16, x0, x38, x38, x52, x53, x54]) 6).toArray, []⟩) (by kernel_rfl) ?_
     refine ls_p (d := some 55) (by kernel_rfl) (by kernel_rfl) (p_nil (by kernel_rfl) H) (fun x55 H => ?_)
     refine ls_p (d := some 56) (by kernel_rfl) (by kernel_rfl) (p_off Try.underlying72 rfl (fun w => ⟨_, Try.sizeOf30 w⟩) rfl (by kernel_rfl) H) (fun x56 H => ?_)
     refine ls_d (d := none) (by kernel_rfl) (by kernel_rfl) HA_12 (d_st Try.sizeOf30 (by kernel_rfl) (by kernel_rfl) H) (fun _ h_11 w_13 H HA_13 => ?_)
     refine ls_nil ?_
     exact ⟨(fun i => ([x38, x0, x25, x26, x27, x0, x29, x30, x31, x32, x0, x34, x35, x36, x37, x38, x0, x0, x0, x42, x43, x44, x45, x46, x47, x16, x0, x38, x38, x52, x53, x54, x55, x56, ud, ud, ud, ud]).getD i ud), h_11, by kernel_rfl, HA_13, H⟩
    ·refine lwp_list ?_
     refine ls_move (x := x0) (by kernel_rfl) (by kernel_rfl) ?_
     refine ls_move (x := x38) (by kernel_rfl) (by kernel_rfl) ?_
     refine ls_p (d := some 59) (by kernel_rfl) (by kernel_rfl) (p_nil (by kernel_rfl) H) (fun x59 H => ?_)
     refine ls_p (d := some 60) (by kernel_rfl) (by kernel_rfl) (p_off Try.underlying72 rfl (fun w => ⟨_, Try.sizeOf30 w⟩) rfl (by kernel_rfl) H) (fun x60 H => ?_)
     refine ls_d (d := none) (by kernel_rfl) (by kernel_rfl) HA_12 (d_st Try.sizeOf30 (by kernel_rfl) (by kernel_rfl) H) (fun _ h_12 w_14 H HA_14 => ?_)
     refine ls_nil ?_
     exact ⟨(fun i => (Aq [x38, x0, x25, x26, x27, x0, x29, x30, x31, x32, x0, x34, x35, x36, x37, x38, x0, x0, x0, x42, x43, x44, x45, x46, x47, x16] 8 [x0, x38, x59, x60]).getD i ud), h_12, by kernel_rfl, HA_14, H⟩
   ·refine wp_skip ?_
    exact ⟨(fun i => (Ap [] 38).getD i ud), h_3, by kernel_rfl, HA_4, H⟩
  ·rintro _ w_5 ⟨D, h_4, rfl, HA_5, H⟩
   unfold ldisc_Disc_Set_j1 at H
   refine then_normal ?_
   refine fr_eq (b := ⟨([x0, x1, ud, x3, (.bool false), x12, x16, (D 0), x8, x9, x10, x0, x12, x13, x14, x15, x16, x0, x18, x19, x20, x12, x16, x23] ++ (Ad D 1 37 [])).toArray, []⟩) (by kernel_rfl) ?_
   refine wp_seq (lwp_list ?_)
   refine ls_assign (x := (.bool true)) (by kernel_rfl) (by kernel_rfl) ?_
   refine ls_nil (then_normal ?_)
   refine fr_eq (b := ⟨([x0, x1, ud, x3, (.bool true), x12, x16, (D 0), x8, x9, x10, x0, x12, x13, x14, x15, x16, x0, x18, x19, x20, x12, x16, x23] ++ (Ad D 1 37 [])).toArray, []⟩) (by kernel_rfl) ?_
   refine wp_ret ?_
   exact end1 (Try.results25) (by kernel_rfl) (by kernel_rfl) HA_5 H _ (.inr rfl)

end Go.Proofs.Ytlcklnbgknhhkaa

end

section
/- The line discipline: another setting. -/
set_option linter.unusedSimpArgs false
set_option linter.unusedVariables false
namespace Go.Proofs.Ytlcklnbgknhhkaa
open Go Go.HW

theorem setAll_take : ∀ (src L : List Int) (p : Nat), p + src.length ≤ L.length → (setAll L p src).take (p + src.length) = L.take p ++ src
  | [], L, p, _ => by rw [List.append_nil]; rfl
  | x :: src, L, p, h => by
    rw [List.length_cons] at h
    rw [setAll, List.length_cons, show p + (src.length + 1) = p + 1 + src.length by omega, setAll_take src (L.set p x) (p + 1) (by rw [List.length_set]; omega)]
    rw [List.take_succ_eq_append_getElem (by rw [List.length_set]; omega), List.take_set_of_le (Nat.le_refl _), List.getElem_set_self, List.append_assoc]
    rfl
section
variable {h0 h : Heap} {F : List HP} {R : Value → Heap → Prop} {k : Nat} {d : D}
theorem mknz0 {e : Nat} {K : Value → Heap → Prop} (s : HW.Sep h0 F h) (n : Nat) (hn : n ≤ 281474976710656)
    (H : ∀ v l h', Cell1 v → l.length = n → HW.Sep h0 (Sl (encI .u8) 1 v l :: F) h' → K v h') : sMkNZ h (.int .i64 (n : Int)) e (fun x h' => sSl3 x none (.int .i64 (n : Int)) (.int .i64 (n : Int)) 1 fun y => K y h') := by
  refine ⟨n, rfl, hn, fun bs hb _ => ?_⟩
  refine ⟨some ⟨h.size, 0, none⟩, n, bs.length, 0, n, n, .i64, .i64, rfl, rfl, rfl, rfl, Nat.zero_le _, Nat.le_refl _, hb, ?_⟩
  have ec : cutV (some ⟨h.size, 0, none⟩) 0 n n 1 = .slice (some ⟨h.size, 0, none⟩) n n := by
    unfold cutV
    split <;> rfl
  rw [ec]
  have o : Own (encI .u8) 1 (h.push (.cells (bs.map fun b => Value.int .u8 b).toArray e)) (some h.size) (.slice (some ⟨h.size, 0, none⟩) n n) (bs.take n) := by
    refine .inr ⟨h.size, 0, n, n, _, e, rfl, rfl, by rw [List.length_take]; omega, Nat.le_refl _, Heap.has_new _ _, by simp; omega, fun j y hj i u hu => ?_⟩
    have hi : i = 0 := by have := (List.getElem?_eq_some_iff.1 hu).1; simp [encI] at this; exact this
    subst hi
    simp [encI] at hu
    subst hu
    have hj' := (List.getElem?_eq_some_iff.1 hj).1
    rw [List.length_take] at hj'
    rw [List.getElem?_take_of_lt (by omega)] at hj
    simp [hj]
  exact H _ _ _ trivial (by rw [List.length_take]; omega) (s.add1 (sep_own (Ext.refl h).push o fun _ e => by cases e; exact Nat.le_refl _))
theorem copy0 {v y : Value} {src l : List Int} {i j : Nat} {K : Value → Heap → Prop} (s : HW.Sep h0 (Sl (encI .u8) 1 v l :: F) h) (q : Seq (encI .u8) 1 h y src) (hij : i ≤ j) (hj : j ≤ l.length) (hz : min src.length (j - i) = 0) (H : K (.int .i64 ((0 : Nat) : Int)) h) : sCopy h (HW.cutP v i j 1) y 1 K := by
  obtain ⟨kk, o⟩ := s.own
  have r0 := q.rowTake (encI_len .u8) (k := 0) (Nat.zero_le _)
  rcases o with ⟨_, rfl, rfl⟩ | ⟨b, p, n, m, c, t, _, rfl, hn, hm, hb, hc, hcc⟩
  · have hj0 : j = 0 := by simpa using hj
    subst hj0
    have hi0 : i = 0 := by omega
    subst hi0
    refine ⟨none, 0, 0, src.length, #[], rfl, q.lenV, ?_, ?_, by simp, .inl ⟨rfl, ?_⟩⟩
    · rw [Nat.min_zero]; exact r0
    · rw [Nat.min_zero]; rfl
    · rw [Nat.min_zero]; exact H
  · have hb2 : ∃ p', HW.cutP (.slice (some ⟨b, p, none⟩) n m) i j 1 = .slice (some ⟨b, p', none⟩) (j - i) (m - i) ∧ p' ≤ c.size := by
      simp only [HW.cutP, cutV]
      split
      · exact ⟨p, rfl, by omega⟩
      · refine ⟨p + i * 1, ?_, by omega⟩
        simp only [Option.map_some, Addr.add]
        split
        · rename_i h0; rw [h0]; rfl
        · rfl
    obtain ⟨p', e, hp'⟩ := hb2
    rw [e]
    refine ⟨_, j - i, _, src.length, #[], rfl, q.lenV, ?_, ?_, by simp, .inr ⟨b, p', rfl, hb.fits (by omega), ?_⟩⟩
    · rw [hz]; exact r0
    · rw [hz]; rfl
    · rw [hz]; exact H
theorem copyU {v y : Value} {src l : List Int} {i j : Nat} {K : Value → Heap → Prop} (s : HW.Sep h0 (Sl (encI .u8) 1 v l :: F) h) (q : Seq (encI .u8) 1 h y src) (hij : i ≤ j) (hj : j ≤ l.length) (hs : src.length ≤ j - i) (H : ∀ h', HW.Sep h0 (Sl (encI .u8) 1 v (setAll l i src) :: F) h' → K (.int .i64 (src.length : Nat)) h') : sCopy h (HW.cutP v i j 1) y 1 K := by
  by_cases hz : src.length = 0
  · have : src = [] := List.eq_nil_of_length_eq_zero hz
    subst this
    exact copy0 s q hij hj (by simp) (H h s)
  · refine s.copyT (encI_len .u8) (encI_cell .u8) q (by omega) hj (fun h' s' => ?_)
    rw [List.take_of_length_le hs] at s'
    rw [Nat.min_eq_left hs]
    exact H h' s'
/-- Rows that are read. -/
def rowsR (h : Heap) (rs : List (CV × List Int)) : Prop := ∀ p ∈ rs, Seq (encI .u8) 1 h p.1.1 p.2
theorem sum_take {rs : List (CV × List Int)} {i : Nat} {p : CV × List Int} (hp : rs[i]? = some p) : sumL ((rs.map (·.2)).take (i + 1)) = sumL ((rs.map (·.2)).take i) + p.2.length ∧ ((rs.map (·.2)).take (i + 1)).flatten = ((rs.map (·.2)).take i).flatten ++ p.2 ∧ sumL ((rs.map (·.2)).take (i + 1)) ≤ sumL (rs.map (·.2)) := by
  have hp2 : (rs.map (·.2))[i]? = some p.2 := by rw [List.getElem?_map, hp]; rfl
  have hi := (List.getElem?_eq_some_iff.1 hp2).1
  refine ⟨?_, ?_, sumL_take _ _ (by omega)⟩
  · rw [List.take_add_one, hp2]; exact sumL_append _ _
  · rw [List.take_add_one, hp2, List.flatten_append]; simp
theorem join_spec {sv : Value} {rs : List (CV × List Int)} (qs : Seq encCV 1 h sv (rs.map (·.1))) (qr : rowsR h rs) (hb : rs.length + sumL (rs.map (·.2)) ≤ 1000000000) (H : ∀ v h', HW.Sep h [Sl (encI .u8) 1 v (rs.map (·.2)).flatten] h' → R v h') : bytes_Join_c sv (.slice none 0 0) h R := by
  apply bytes_Join_runs
  unfold bytes_Join_S
  have ls : ∀ {K : Value → Prop}, sLen sv K = K (.int .i64 rs.length) := fun {K} => by rw [qs.len, List.length_map]
  have row : ∀ {i : Nat} {p : CV × List Int} {h' : Heap}, rs[i]? = some p → Ext h h' → ∀ {K : Value → Prop}, sIxS sv (.int .i64 (i : Int)) 1 (fun x => sLd h' x K) = K p.1.1 := by
    intro i p h' hp e K
    have hp1 : (rs.map (·.1))[i]? = some p.1 := by rw [List.getElem?_map, hp]; rfl
    exact Seq.ld (qs.ext e) hp1 rfl .i64
  rw [ls, ev_eq, ev_if]
  by_cases h0c : rs.length = 0
  · have : rs = [] := List.eq_nil_of_length_eq_zero h0c
    subst this
    rw [if_pos (by decide)]
    exact (HW.Sep.start h).slit (enc := encI .u8) (sz := 1) (encI_len .u8) [] rfl rfl (fun v1 h1 cv1 s1 => H v1 h1 s1)
  rw [if_neg (fun e => h0c (by simpa using e)), ls, ev_eq, ev_if]
  obtain ⟨p0, hp0⟩ : ∃ p, rs[0]? = some p := ⟨rs[0], List.getElem?_eq_getElem (by omega)⟩
  have q0 := qr p0 (List.mem_of_getElem? hp0)
  have st0 := sum_take hp0
  rw [List.take_zero] at st0
  obtain ⟨u1, u2, u3⟩ := st0
  have st0 := And.intro u1 u2
  have s00 : sumL [] = 0 := rfl
  by_cases h1c : rs.length = 1
  · rw [if_pos (by rw [h1c]; decide)]
    have r0 := fun {K : Value → Prop} => row (K := K) hp0 (Ext.refl h)
    rw [show ((0 : Nat) : Int) = 0 from rfl] at r0
    rw [r0]
    refine (sep_nil (enc := encI .u8) (sz := 1) (HW.Sep.start h)).app (enc := encI .u8) (sz := 1) rfl (by decide) (encI_len .u8) (encI_cell .u8) q0 (by simp only [List.length_nil]; omega) (by decide) (fun v1 h1 cv1 s1 => H v1 h1 ?_)
    have e : (rs.map (·.2)).flatten = [] ++ p0.2 := by
      have := u2
      rw [List.take_of_length_le (by rw [List.length_map]; omega)] at this
      rw [this]; rfl
    rw [e]; exact s1
  rw [if_neg (by simp; omega), ev_len, ev_gt, ev_if, if_neg (by decide)]
  unfold bytes_Join_j1
  rw [ls]
  refine ⟨fun t h' => ∃ i : Nat, i ≤ rs.length ∧ t = (.int .i64 (sumL ((rs.map (·.2)).take i) : Nat), .int .i64 i) ∧ h' = h, fun t _ => match t.2 with | .int _ i => (rs.length - i).toNat | _ => 0, ⟨0, Nat.zero_le _, rfl, rfl⟩, ?_⟩
  rintro _ hx ⟨i, hi, rfl, ex⟩
  simp only []
  rw [ex]
  unfold bytes_Join_l2
  rw [ev_lt, ev_if]
  by_cases hlt : i < rs.length
  · rw [if_pos (decide_eq_true (by omega))]
    obtain ⟨p, hp⟩ : ∃ p, rs[i]? = some p := ⟨rs[i], List.getElem?_eq_getElem hlt⟩
    have qp := qr p (List.mem_of_getElem? hp)
    obtain ⟨t1, t2, t3⟩ := sum_take hp
    have lp : ∀ {K : Value → Prop}, sLen p.1.1 K = K (.int .i64 p.2.length) := fun {K} => qp.len
    rw [row hp (Ext.refl _), lp, ev_sub, wrap_i64 (by omega) (by omega), ev_gt, ev_if, if_neg (by simp; omega)]
    unfold bytes_Join_j3
    rw [lp, ev_add, wrap_i64 (by omega) (by omega), ev_add, wrap_i64 (by omega) (by omega)]
    refine ⟨⟨i + 1, hlt, by rw [t1, Int.natCast_add, Int.natCast_add]; rfl, rfl⟩, by simp only; omega⟩
  have : i = rs.length := by omega
  subst this
  rw [if_neg (by simp)]
  have tall : (rs.map (·.2)).take rs.length = rs.map (·.2) := List.take_of_length_le (by rw [List.length_map]; omega)
  rw [tall]
  obtain ⟨n, hn⟩ : ∃ n, sumL (rs.map (·.2)) = n := ⟨_, rfl⟩
  rw [hn] at hb ⊢
  refine mknz0 (HW.Sep.start h) n (by omega) (fun v l h1 cv hl s1 => ?_)
  have r0 := fun {K : Value → Prop} => row (K := K) hp0 s1.ext
  rw [show ((0 : Nat) : Int) = 0 from rfl] at r0
  rw [r0]
  have hcv : ∀ {l : List Int} {h' : Heap}, HW.Sep h [Sl (encI .u8) 1 v l] h' → l.length = n → ∀ {K : Value → Heap → Prop} {y : Value}, sCopy h' (HW.cutP v 0 n 1) y 1 K → sCopy h' v y 1 K := by
    intro l h' s' hl' K y hh
    obtain ⟨a, n', m, rfl, hn', hm, hd⟩ := s'.seq
    have e : HW.cutP (.slice a n' m) 0 n 1 = .slice a n' m := by
      simp only [HW.cutP, cutV, Nat.sub_zero]
      have : n = n' := by omega
      rw [this]
      split
      · rfl
      · cases a with
        | none => rfl
        | some a => simp [Addr.add]
    rw [e] at hh; exact hh
  refine hcv s1 hl ?_
  refine copyU s1 (q0.ext s1.ext) (Nat.zero_le _) (by omega) (by omega) (fun h2 s2 => ?_)
  have qs1 := qs.slK (K := fun w => sLen w fun x71 => sLoop (S := Value × Value) (fun nxt s h => bytes_Join_l4 R (.slice none 0 0) v w x71 (fun x9' x72' h => nxt (x9', x72') h) s.1 s.2 h) (.int .i64 (p0.2.length : Nat), .int .i64 0) h2) (i := 1) (j := rs.length) (lo := some (.int .i64 1)) (hi' := none) (by omega) (by rw [List.length_map]; omega) ⟨.i64, rfl⟩ (by show bnd none _ _; simp only [bnd, List.length_map])
  refine qs1 ?_
  have qc := qs.cutP (i := 1) (j := rs.length) (by omega) (by rw [List.length_map]; omega)
  rw [List.take_of_length_le (by rw [List.length_map]; omega)] at qc
  generalize HW.cutP sv 1 rs.length 1 = w at qc
  have lw : ∀ {K : Value → Prop}, sLen w K = K (.int .i64 ((rs.length - 1 : Nat) : Int)) := fun {K} => by rw [qc.len, List.length_drop, List.length_map]
  rw [lw]
  have tk0 := setAll_take p0.2 l 0 (by omega)
  rw [Nat.zero_add, List.take_zero, List.nil_append] at tk0
  refine ⟨fun t h' => ∃ (i : Nat) (L : List Int), i + 1 ≤ rs.length ∧ L.length = n ∧ L.take (sumL ((rs.map (·.2)).take (i + 1))) = ((rs.map (·.2)).take (i + 1)).flatten ∧ t = (.int .i64 (sumL ((rs.map (·.2)).take (i + 1)) : Nat), .int .i64 i) ∧ HW.Sep h [Sl (encI .u8) 1 v L] h', fun t _ => match t.2 with | .int _ i => (rs.length - i).toNat | _ => 0, ⟨0, _, by omega, by rw [setAll_len]; exact hl, by rw [u1, u2, s00, Nat.zero_add]; exact tk0, by rw [u1, s00, Nat.zero_add]; rfl, s2⟩, ?_⟩
  rintro _ h3 ⟨i, L, hi, hL, hT, rfl, s3⟩
  simp only []
  unfold bytes_Join_l4
  rw [ev_lt, ev_if]
  have sle := sumL_take (rs.map (·.2)) (i + 1) (by rw [List.length_map]; omega)
  by_cases hlt : i + 1 < rs.length
  · rw [if_pos (decide_eq_true (by omega))]
    obtain ⟨p, hp⟩ : ∃ p, rs[i + 1]? = some p := ⟨rs[i + 1], List.getElem?_eq_getElem hlt⟩
    have qp := qr p (List.mem_of_getElem? hp)
    obtain ⟨t1, t2, t3⟩ := sum_take hp
    have hp1 : ((rs.map (·.1)).drop 1)[i]? = some p.1 := by rw [List.getElem?_drop, List.getElem?_map, Nat.add_comm, hp]; rfl
    rw [Seq.ld (qc.ext s3.ext) hp1 rfl]
    generalize hS : sumL ((rs.map (·.2)).take (i + 1)) = S at *
    have lo : ∀ {L' : List Int} {h' : Heap} {x : Nat} {K : Value → Prop}, HW.Sep h [Sl (encI .u8) 1 v L'] h' → L'.length = n → x ≤ n → K (HW.cutP v x n 1) → sSl v (some (.int .i64 (x : Int))) none 1 K := fun s' hl' hx hk => s'.seq.slK (by omega) (by omega) ⟨.i64, rfl⟩ (by show bnd none _ _; simp only [bnd]; omega) hk
    refine lo s3 hL (by omega) ?_
    refine copyU s3 (src := []) ⟨none, 0, 0, rfl, rfl, Nat.le_refl _, .inl rfl⟩ (by omega) (by omega) (by simp) (fun h4 s4 => ?_)
    rw [ev_add, show (S : Int) + (([] : List Int).length : Nat) = (S : Int) by simp, wrap_i64 (by omega) (by omega)]
    have s4 : HW.Sep h [Sl (encI .u8) 1 v L] h4 := s4
    refine lo s4 hL (by omega) ?_
    refine copyU s4 (qp.ext s4.ext) (by omega) (by omega) (by omega) (fun h5 s5 => ?_)
    rw [ev_add, wrap_i64 (by omega) (by omega), ev_add, wrap_i64 (by omega) (by omega)]
    refine ⟨⟨i + 1, _, hlt, by rw [setAll_len]; exact hL, ?_, by rw [t1, Int.natCast_add, Int.natCast_add]; rfl, s5⟩, by simp only; omega⟩
    rw [t1, t2, setAll_take _ _ _ (by omega), hT]
  · rw [if_neg (by simp; omega)]
    have e : i + 1 = rs.length := by omega
    rw [e, tall, hn, ← hL, List.take_length] at hT
    rw [hT] at s3
    exact H v h3 s3
theorem grow_spec {n : Nat} (hn : n ≤ 1000000000) (H : ∀ v h', HW.Sep h [Sl (encI .u8) 1 v []] h' → R v h') : slices_Grow_byte_byte_c (.slice none 0 0) (.int .i64 (n : Int)) h R := by
  apply slices_Grow_byte_byte_runs
  unfold slices_Grow_byte_byte_S
  rw [ev_lt, ev_if, if_neg (by simp)]
  unfold slices_Grow_byte_byte_j1 slices_Grow_byte_byte_j2
  rw [ev_cap, ev_len, ev_sub, wrap_i64 (by omega) (by omega), ev_sub, wrap_i64 (by omega) (by omega), ev_gt, ev_if]
  have s0 := sep_nil (enc := encI .u8) (sz := 1) (HW.Sep.start h)
  rw [show (n : Int) - (((0 : Nat) : Int) - ((0 : Nat) : Int)) = (n : Int) by simp]
  by_cases hp : (n : Int) > 0
  · rw [if_pos (decide_eq_true hp), ev_cap]
    refine s0.seq.slK (i := 0) (j := 0) (Nat.le_refl _) (Nat.le_refl _) rfl ⟨.i64, rfl⟩ ?_
    refine s0.appz (x := (0 : Int)) (n := n) (k := .i64) rfl rfl (by decide) (encI_len .u8) (encI_cell .u8) (by simp only [List.length_nil]; omega) (by decide) (fun v h1 cv s1 => ?_)
    rw [ev_len]
    refine s1.seq.slK (i := 0) (j := 0) (Nat.le_refl _) (Nat.zero_le _) rfl ⟨.i64, rfl⟩ ?_
    exact H _ h1 (s1.cutr (j := 0) (Nat.zero_le _))
  · rw [if_neg (by simpa using hp)]
    exact H _ h s0
theorem concat_spec {v : Value} {rs : List (CV × List Int)} (qs : Seq encCV 1 h v (rs.map (·.1))) (qr : rowsR h rs) (hb : rs.length + sumL (rs.map (·.2)) ≤ 1000000000) (H : ∀ v h', HW.Sep h [Sl (encI .u8) 1 v (rs.map (·.2)).flatten] h' → R v h') : slices_Concat_byte_byte_c v h R := by
  apply slices_Concat_byte_byte_runs
  unfold slices_Concat_byte_byte_S
  have ls : ∀ {K : Value → Prop}, sLen v K = K (.int .i64 rs.length) := fun {K} => by rw [qs.len, List.length_map]
  have row : ∀ {i : Nat} {p : CV × List Int} {h' : Heap}, rs[i]? = some p → Ext h h' → ∀ {K : Value → Prop}, sIxS v (.int .i64 (i : Int)) 1 (fun x => sLd h' x K) = K p.1.1 := by
    intro i p h' hp e K
    have hp1 : (rs.map (·.1))[i]? = some p.1 := by rw [List.getElem?_map, hp]; rfl
    exact Seq.ld (qs.ext e) hp1 rfl .i64
  rw [ls]
  refine ⟨fun t h' => ∃ i : Nat, i ≤ rs.length ∧ t = (.int .i64 (sumL ((rs.map (·.2)).take i) : Nat), .int .i64 i) ∧ h' = h, fun t _ => match t.2 with | .int _ i => (rs.length - i).toNat | _ => 0, ⟨0, Nat.zero_le _, rfl, rfl⟩, ?_⟩
  rintro _ hx ⟨i, hi, rfl, ex⟩
  simp only []
  rw [ex]
  unfold slices_Concat_byte_byte_l1
  rw [ev_lt, ev_if]
  by_cases hlt : i < rs.length
  · rw [if_pos (decide_eq_true (by omega))]
    obtain ⟨p, hp⟩ : ∃ p, rs[i]? = some p := ⟨rs[i], List.getElem?_eq_getElem hlt⟩
    have qp := qr p (List.mem_of_getElem? hp)
    obtain ⟨t1, t2, t3⟩ := sum_take hp
    have lp : ∀ {K : Value → Prop}, sLen p.1.1 K = K (.int .i64 p.2.length) := fun {K} => qp.len
    rw [row hp (Ext.refl _), lp, ev_add, wrap_i64 (by omega) (by omega), ev_lt, ev_if, if_neg (by simp; omega)]
    unfold slices_Concat_byte_byte_j2
    rw [ev_add, wrap_i64 (by omega) (by omega)]
    refine ⟨⟨i + 1, hlt, by rw [t1, Int.natCast_add, Int.natCast_add]; rfl, rfl⟩, by simp only; omega⟩
  have : i = rs.length := by omega
  subst this
  rw [if_neg (by simp)]
  have tall : (rs.map (·.2)).take rs.length = rs.map (·.2) := List.take_of_length_le (by rw [List.length_map]; omega)
  rw [tall]
  refine grow_spec (by omega) (fun v1 h1 s1 => ?_)
  rw [ls]
  refine ⟨fun t h' => ∃ (i : Nat) (v2 : Value), i ≤ rs.length ∧ t = (v2, .int .i64 i) ∧ HW.Sep h [Sl (encI .u8) 1 v2 ((rs.map (·.2)).take i).flatten] h', fun t _ => match t.2 with | .int _ i => (rs.length - i).toNat | _ => 0, ⟨0, v1, Nat.zero_le _, rfl, s1⟩, ?_⟩
  rintro _ h2 ⟨i, v2, hi, rfl, s2⟩
  simp only []
  unfold slices_Concat_byte_byte_l3
  rw [ev_lt, ev_if]
  by_cases hlt : i < rs.length
  · rw [if_pos (decide_eq_true (by omega))]
    obtain ⟨p, hp⟩ : ∃ p, rs[i]? = some p := ⟨rs[i], List.getElem?_eq_getElem hlt⟩
    have qp := qr p (List.mem_of_getElem? hp)
    obtain ⟨t1, t2, t3⟩ := sum_take hp
    rw [row hp s2.ext]
    refine s2.app (enc := encI .u8) (sz := 1) rfl (by decide) (encI_len .u8) (encI_cell .u8) (qp.ext s2.ext) (by rw [sumL_flat]; omega) (by decide) (fun v3 h3 cv3 s3 => ?_)
    rw [ev_add, wrap_i64 (by omega) (by omega)]
    rw [← t2] at s3
    exact ⟨⟨i + 1, v3, hlt, by rw [Int.natCast_add]; rfl, s3⟩, by simp only; omega⟩
  · have : i = rs.length := by omega
    subst this
    rw [if_neg (by simp)]
    rw [tall] at s2
    exact H v2 h2 s2
set_option maxRecDepth 20000 in
theorem set_spec {t : Tm} (s : HW.Sep h0 (Dc k d :: F) h) (hb : d.wt ≤ 100000000) (H : ∀ h', HW.Sep h0 (Dc k (if t.right = true then d.set t else d) :: F) h' → R (.bool t.right) h') : ldisc_Disc_Set_c (ptr k 0) t.v h R := by
  apply ldisc_Disc_Set_runs
  unfold ldisc_Disc_Set_S
  refine s.box (c := t.c) rfl (fun k1 h1 s1 => ?_)
  rw [s1.ldall (n := 17) rfl]
  refine tright_spec (fun h2 e2 => ?_)
  have s2 := s1.ext' e2
  rw [ev_not, ev_if]
  cases ht : t.right with
  | false =>
    rw [ht, if_neg (by decide)] at H
    rw [if_pos (by decide)]
    exact H h2 s2.tail
  | true =>
  rw [ht, if_pos rfl] at H
  rw [if_neg (by decide)]
  have b1 : h2.has k1 t.c 28 := s2.has
  refine ⟨fun h' => h'.has k1 t.c 28, b1, ?_⟩
  refine local_spec s2.tail ⟨b1, ?_⟩
  have c2 : ∀ {K : Value → Prop}, sLdC (fun h' => h'.has k1 t.c 28) (ptr k1 2) K = K (.int .i64 t.l) := fun {K} => ldc_at (C := fun h' => h'.has k1 t.c 28) (h0 := h2) b1 (fun h' e => by rw [e.at]; rfl)
  rw [ev_off, Nat.zero_add, c2, bits_has, s2.ldall (n := 17) rfl, ev_nil, ev_off, Nat.zero_add]
  obtain ⟨lv, sv, rv, ev, rs, e, so⟩ := Dopen s2.tail
  refine so.stn (cs := t.c) rfl (by show 17 ≤ _; exact Nat.le_of_ble_eq_true rfl) t.cell1 (fun h3 s3 => ?_)
  rw [set_cells] at s3
  unfold ldisc_Disc_Set_j1
  rw [ev_neqB, ev_if]
  unfold D.set at H
  by_cases hq : d.loc 1 = hasB t.l 1
  · rw [if_pos hq] at H
    rw [if_neg (by rw [hq]; simp)]
    exact H h3 (Dshut (d := { d with t := t }) e s3)
  rw [if_neg hq] at H
  rw [if_pos (by simpa using hq)]
  have wts := hb
  unfold D.wt at wts
  have lrs : rs.length = d.ls.length := by rw [← e, List.length_map]
  have b : h3.has k (dC { d with t := t } lv sv rv ev) 72 := s3.has
  have cc : ∀ {o : Nat} {u : Value} {K : Value → Prop}, (dC { d with t := t } lv sv rv ev)[o]? = some u → sLdC (fun h' => h'.has k (dC { d with t := t } lv sv rv ev) 72) (ptr k o) K = K u := fun hv => ldc_at (C := fun h' => h'.has k (dC { d with t := t } lv sv rv ev) 72) (h0 := h3) b (fun h' e => by rw [e.at, hv])
  refine ⟨fun h' => h'.has k (dC { d with t := t } lv sv rv ev) 72, b, ?_⟩
  have f18 : ∀ {K : Value → Prop}, sLd h3 (ptr k 18) K = K sv := s3.ld rfl
  rw [ev_nil, ev_off, Nat.zero_add, cc (o := 19) (u := rv) rfl, ev_nil, ev_off, Nat.zero_add, f18]
  have ql := s3.b1.seq
  have qr := s3.b4.seq
  have qs := s3.b2.seq
  have rws : rowsR h3 rs := fun p hp => by
    obtain ⟨i, hi⟩ := List.mem_iff_getElem?.1 hp
    exact rows_len s3.b3 hi
  refine join_spec qs rws (by rw [e, lrs]; omega) (fun vj h4 s4 => ⟨s4.ext.has b, ?_⟩)
  rw [e] at s4
  rw [ev_nil, ev_off, Nat.zero_add, cc (o := 17) (u := lv) rfl]
  have cl := seq_cell ql
  have cr := seq_cell qr
  have cj : Cell1 vj := s4.cell
  have qj := s4.seq
  obtain ⟨la, ln, lm, hlv, _⟩ := id ql
  obtain ⟨ra, rn, rm, hrv, _⟩ := id qr
  obtain ⟨ja, jn, jm, hjv, _⟩ := id qj
  have fl : sFill #[Value.slice none 0 0, .slice none 0 0, .slice none 0 0] [(0, 1, rv), (1, 1, vj), (2, 1, lv)] fun cs => cs = ([(⟨rv, cr⟩ : CV), ⟨vj, cj⟩, ⟨lv, cl⟩].flatMap encCV).toArray := by
    subst hlv hrv hjv
    exact ⟨rfl, Nat.le_of_ble_eq_true rfl, rfl, Nat.le_of_ble_eq_true rfl, rfl, Nat.le_of_ble_eq_true rfl, rfl⟩
  refine s4.slit (enc := encCV) (sz := 1) encCV_len [(⟨rv, cr⟩ : CV), ⟨vj, cj⟩, ⟨lv, cl⟩] rfl fl (fun v5 h5 cv5 s5 => ?_)
  have e35 : Ext h3 h5 := s5.ext
  refine concat_spec (rs := [((⟨rv, cr⟩ : CV), d.ra), (⟨vj, cj⟩, d.ls.flatten), (⟨lv, cl⟩, d.ln)]) s5.seq (fun p hp => ?_) ?_ (fun v6 h6 s6 => ?_)
  · simp only [List.mem_cons, List.not_mem_nil, or_false] at hp
    rcases hp with rfl | rfl | rfl
    · exact qr.ext e35
    · exact s5.b1.seq
    · exact ql.ext e35
  · unfold sumL
    simp only [List.map_cons, List.map_nil, List.sum_cons, List.sum_nil, List.length_cons, List.length_nil, sumL_flat]
    omega
  have eall : (([((⟨rv, cr⟩ : CV), d.ra), (⟨vj, cj⟩, d.ls.flatten), (⟨lv, cl⟩, d.ln)]).map (·.2)).flatten = allL d := by unfold allL; simp
  rw [eall] at s6
  have s7 := (s3.ext' e35).add1 s6
  have cv6 : Cell1 v6 := s7.cell
  rw [ev_nil, ev_off, Nat.zero_add]
  refine s7.b1.st (Nat.le_of_ble_eq_true rfl) trivial (fun h7 s8 => ?_)
  rw [ev_nil, ev_off, Nat.zero_add]
  refine s8.st (Nat.le_of_ble_eq_true rfl) trivial (fun h8 s9 => ?_)
  rw [ev_nil, ev_off, Nat.zero_add]
  refine s9.st (Nat.le_of_ble_eq_true rfl) trivial (fun h9 s10 => ?_)
  have s11 : HW.Sep h0 (Blk k (dC ({ d with t := t } : D).flush (.slice none 0 0) (.slice none 0 0) (.slice none 0 0) ev) 72 :: Sl (encI .u8) 1 v6 (allL d) :: Sl (encI .u8) 1 ev d.ec :: F) h9 := selF (L := [_, _, _, _, _, _, _]) s10 [2, 3, 4, 5, 0, 1, 6] rfl (by decide) |>.tail.tail.tail.tail
  have nils : ∀ {d' : D} {lv' rv' : Value} {h'}, d'.ls = [] → HW.Sep h0 (Blk k (dC d' lv' (.slice none 0 0) rv' ev) 72 :: Sl (encI .u8) 1 lv' d'.ln :: Sl (encI .u8) 1 rv' d'.ra :: Sl (encI .u8) 1 ev d'.ec :: F) h' → HW.Sep h0 (Dc k d' :: F) h' := by
    intro d' lv' rv' h' e' s'
    have t1 : HW.Sep h0 (Sl encCV 1 (.slice none 0 0) (([] : List (CV × List Int)).map (·.1)) :: rowsU [] :: Blk k (dC d' lv' (.slice none 0 0) rv' ev) 72 :: Sl (encI .u8) 1 lv' d'.ln :: Sl (encI .u8) 1 rv' d'.ra :: Sl (encI .u8) 1 ev d'.ec :: F) h' := sep_nil (enc := encCV) (sz := 1) (s'.shut_all (L := []))
    exact Dshut (d := d') (rs := []) e'.symm (selF (L := [_, _, _, _, _, _]) t1 [2, 3, 0, 1, 4, 5] rfl (by decide))
  have al := allL_len d
  have hr : (allL d).length ≤ 100000000 := by unfold D.readyN at al; omega
  rw [ev_if]
  cases hl : hasB t.l 1 with
  | true =>
    rw [hl, if_pos rfl] at H
    rw [if_pos rfl]
    have q11 := s11.b1.seq
    have mm : (if (254 : Int) < ((allL d).length : Int) then (254 : Int) else ((allL d).length : Int)) = ((min 254 (allL d).length : Nat) : Int) := by split <;> omega
    rw [q11.len, ev_min, mm]
    refine q11.slK (i := 0) (j := min 254 (allL d).length) (by omega) (by omega) rfl ⟨.i64, rfl⟩ ?_
    have s12 := s11.b1.cutr (j := min 254 (allL d).length) (by omega)
    rw [show (allL d).take (min 254 (allL d).length) = (allL d).take 254 by
      rcases Nat.le_total 254 (allL d).length with h | h
      · rw [Nat.min_eq_left h]
      · rw [Nat.min_eq_right h, List.take_of_length_le (Nat.le_refl _), List.take_of_length_le h]] at s12
    have c12 := s12.cell
    generalize HW.cutP v6 0 (min 254 (allL d).length) 1 = w at s12 c12
    rw [ev_nil, ev_off, Nat.zero_add]
    refine s12.b1.st (Nat.le_of_ble_eq_true rfl) c12 (fun h10 s13 => ?_)
    refine H h10 (nils (d' := { d with t := t, ln := (allL d).take 254, ls := [], ra := [] }) (lv' := w) (rv' := .slice none 0 0) rfl ?_)
    exact (sep_nil (enc := encI .u8) (sz := 1) s13).p2
  | false =>
    rw [hl, if_neg (by decide)] at H
    rw [if_neg (by decide), ev_nil, ev_off, Nat.zero_add]
    refine s11.st (Nat.le_of_ble_eq_true rfl) cv6 (fun h10 s13 => ?_)
    refine H h10 (nils (d' := { d with t := t, ln := [], ls := [], ra := allL d }) (lv' := .slice none 0 0) (rv' := v6) rfl ?_)
    exact (sep_nil (enc := encI .u8) (sz := 1) s13).b1
end
end Go.Proofs.Ytlcklnbgknhhkaa

end

section
/- The shallow reading of one function, and that the function does it. Written by a program. -/
set_option linter.unusedVariables false
namespace Go.Proofs.Ytlcklnbgknhhkaa
open Go Go.HW

def ldisc_Disc_Setting_S (x0 : Value) (h : Heap) (R : Value → Heap → Prop) : Prop :=
  sNew h #[.int .i64 0, .int .i64 0, .int .i64 0, .int .i64 0, .int .i64 0, .int .i64 0, .int .i64 0, .int .i64 0, .int .i64 0, .int .i64 0, .int .i64 0, .int .i64 0, .int .i64 0, .int .i64 0, .int .i64 0, .int .i64 0, .int .i64 0] 28 fun x2 h => 
  sNil x0 fun x4 =>
  sOff x4 0 fun x5 =>
  sLdN h x5 17 fun x6 =>
  sStN h x2 x6 17 fun h_1 => 
  sLdN h_1 x2 17 fun r2 =>
  R r2 h_1
set_option maxRecDepth 100000 in
theorem ldisc_Disc_Setting_runs {x0 : Value} {h : Heap} {R : Value → Heap → Prop} (H : ldisc_Disc_Setting_S x0 h R) : ldisc_Disc_Setting_c x0 h R := by
 unfold ldisc_Disc_Setting_S at H
 refine runs_of (b := ⟨#[x0, ud, ud, ud, ud, ud, ud], []⟩) Try.call29 Try.func29 rfl (by kernel_rfl) (fun w0 HA => ?_)
 refine wp_seq (lwp_list ?_)
 refine ls_d (d := some 2) (by kernel_rfl) (by kernel_rfl) HA (d_alloc Try.zeroValue28 H) (fun x2 h w H HA => ?_)
 refine ls_nil (then_normal ?_)
 refine fr_eq (b := ⟨#[x0, ud, x2, ud, ud, ud, ud], []⟩) (by kernel_rfl) ?_
 refine wp_seq (lwp_list ?_)
 refine ls_move (x := x0) (by kernel_rfl) (by kernel_rfl) ?_
 refine ls_p (d := some 4) (by kernel_rfl) (by kernel_rfl) (p_nil (by kernel_rfl) H) (fun x4 H => ?_)
 refine ls_p (d := some 5) (by kernel_rfl) (by kernel_rfl) (p_off Try.underlying72 rfl (fun w => ⟨_, Try.sizeOf28 w⟩) rfl (by kernel_rfl) H) (fun x5 H => ?_)
 refine ls_y (d := some 6) (by kernel_rfl) (by kernel_rfl) HA (y_ldn Try.isAgg28 Try.sizeOf28 (by kernel_rfl) H) (fun x6 H => ?_)
 refine ls_d (d := none) (by kernel_rfl) (by kernel_rfl) HA (d_stn Try.sizeOf28 (by kernel_rfl) (by kernel_rfl) H) (fun _ h_1 w_1 H HA_1 => ?_)
 refine ls_nil (then_normal ?_)
 refine fr_eq (b := ⟨#[x0, ud, x2, x0, x4, x5, x6], []⟩) (by kernel_rfl) ?_
 refine wp_ret ?_
 obtain ⟨r2, hr2, H⟩ := ld_n Try.isAgg28 Try.sizeOf28 H
 exact endR (vs := [r2]) (Try.results29) (by kernel_rfl) ⟨⟨_, (by kernel_rfl), hr2⟩, trivial⟩ HA_1 H _ (.inr rfl)

end Go.Proofs.Ytlcklnbgknhhkaa

end
