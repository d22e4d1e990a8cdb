/- Texts in one. -/
import Derived.Test.YtlcklnbgknhhkaaFnC
import Derived.Test.YtlcklnbgknhhkaaPk3
section
/- The shallow reading of one function, and that the function does it. Written by a program. -/
set_option linter.unusedVariables false
namespace Go.Proofs.Ytlcklnbgknhhkaa
open Go Go.HW

def betonylaw18_awake_S (h : Heap) (R : Value → Heap → Prop) : Prop :=
  betonyref17_Plain_c  h fun x6 h => 
  ldisc_New_c x6 h fun x7 h_1 => 
  sEqlNil x7 fun x9 =>
  sIf x9 (R (.bool false) h_1) (sSlit h_1 #[.int .u8 0, .int .u8 0, .int .u8 0, .int .u8 0, .int .u8 0] [(0, 1, (.int .u8 97)), (1, 1, (.int .u8 98)), (2, 1, (.int .u8 127)), (3, 1, (.int .u8 99)), (4, 1, (.int .u8 13))] 5 5 fun x12 h_2 => 
  betonylaw18_feed_c x7 x12 h_2 fun x13 h_3 => 
  sTup x13 0 fun x14 =>
  sTup x13 1 fun x15 =>
  ldisc_Disc_Read_c x7 (.int .i64 9) h_3 fun x18 h_4 => 
  sTup x18 0 fun x19 =>
  sTup x18 1 fun x20 =>
  sSlit h_4 #[.int .u8 0, .int .u8 0, .int .u8 0, .int .u8 0, .int .u8 0, .int .u8 0, .int .u8 0] [(0, 1, (.int .u8 97)), (1, 1, (.int .u8 98)), (2, 1, (.int .u8 8)), (3, 1, (.int .u8 32)), (4, 1, (.int .u8 8)), (5, 1, (.int .u8 99)), (6, 1, (.int .u8 10))] 5 7 fun x22 h_5 => 
  betonyref01_Same_c x14 x22 h_5 fun x23 h_6 => 
  sAnd x23 (fun k_2 =>
  sEq x15 (.int .i64 0) fun x26 =>
  k_2 x26) fun x27 =>
  sAndH x27 h_6 (fun k_1 =>
  sSlit h_6 #[.int .u8 0, .int .u8 0, .int .u8 0] [(0, 1, (.int .u8 97)), (1, 1, (.int .u8 99)), (2, 1, (.int .u8 10))] 5 3 fun x30 h_8 => 
  betonyref01_Same_c x19 x30 h_8 fun x31 h_9 => 
  k_1 x31 h_9) fun x32 h_7 =>
  sAnd x32 (fun k =>
  sNot x20 fun x35 =>
  k x35) fun x36 =>
  R x36 h_7)
set_option maxRecDepth 100000 in
theorem betonylaw18_awake_runs {h : Heap} {R : Value → Heap → Prop} (H : betonylaw18_awake_S  h R) : betonylaw18_awake_c  h R := by
  unfold betonylaw18_awake_S at H
  refine runs_of (b := ⟨#[undef, undef, undef, undef, undef, undef, undef, undef, undef, undef, undef, undef, undef, undef, undef, undef, undef, undef, undef, undef, undef, undef, undef, undef, undef, undef, undef, undef, undef, undef, undef, undef, undef, undef, undef, undef, undef], []⟩) Try.call12 Try.func12 rfl (by kernel_rfl) (fun w0 HA => ?_)
  refine wp_seq ?_
  refine lwp_list ?_
  refine ls_assign (x := (.bool false)) (by kernel_rfl) (by kernel_rfl) ?_
  refine ls_nil ?_
  refine then_normal ?_
  refine fr_eq (b := ⟨#[(.bool false), undef, undef, undef, undef, undef, undef, undef, undef, undef, undef, undef, undef, undef, undef, undef, undef, undef, undef, undef, undef, undef, undef, undef, undef, undef, undef, undef, undef, undef, undef, undef, undef, undef, undef, undef, undef], []⟩) (by kernel_rfl) ?_
  refine wp_seq ?_
  refine lwp_list ?_
  refine ls_d (d := some 6) (by kernel_rfl) (by kernel_rfl) HA (d_call (by kernel_rfl) (by kernel_rfl) H) (fun x6 h w H HA => ?_)
  refine ls_d (d := some 7) (by kernel_rfl) (by kernel_rfl) HA (d_call (by kernel_rfl) (by kernel_rfl) H) (fun x7 h_1 w_1 H HA_1 => ?_)
  refine ls_assign (x := x7) (by kernel_rfl) (by kernel_rfl) ?_
  refine ls_nil ?_
  refine then_normal ?_
  refine fr_eq (b := ⟨#[(.bool false), x7, undef, undef, undef, undef, x6, x7, undef, undef, undef, undef, undef, undef, undef, undef, undef, undef, undef, undef, undef, undef, undef, undef, undef, undef, undef, undef, undef, undef, undef, undef, undef, undef, undef, undef, undef], []⟩) (by kernel_rfl) ?_
  refine wp_seq ?_
  refine wp_seq ?_
  refine lwp_list ?_
  refine ls_move (x := x7) (by kernel_rfl) (by kernel_rfl) ?_
  refine ls_p (d := some 9) (by kernel_rfl) (by kernel_rfl) (p_eqlNil Try.underlying24 (by kernel_rfl) (by kernel_rfl) H) (fun x9 H => ?_)
  refine ls_nil ?_
  refine then_normal ?_
  refine fr_eq (b := ⟨#[(.bool false), x7, undef, undef, undef, undef, x6, x7, x7, x9, undef, undef, undef, undef, undef, undef, undef, undef, undef, undef, undef, undef, undef, undef, undef, undef, undef, undef, undef, undef, undef, undef, undef, undef, undef, undef, undef], []⟩) (by kernel_rfl) ?_
  refine wp_if rfl H (fun H => ?_) (fun H => ?_)
  · refine wp_seq ?_
    refine lwp_list ?_
    refine ls_assign (x := (.bool false)) (by kernel_rfl) (by kernel_rfl) ?_
    refine ls_nil ?_
    refine then_normal ?_
    refine fr_eq (b := ⟨#[(.bool false), x7, undef, undef, undef, undef, x6, x7, x7, x9, undef, undef, undef, undef, undef, undef, undef, undef, undef, undef, undef, undef, undef, undef, undef, undef, undef, undef, undef, undef, undef, undef, undef, undef, undef, undef, undef], []⟩) (by kernel_rfl) ?_
    refine wp_ret ?_
    refine then_ret ?_
    exact end1 (Try.results12) (by kernel_rfl) (by kernel_rfl) HA_1 H _ (.inr rfl)
  · refine wp_skip ?_
    refine then_normal ?_
    refine fr_eq (b := ⟨#[(.bool false), x7, undef, undef, undef, undef, x6, x7, x7, x9, undef, undef, undef, undef, undef, undef, undef, undef, undef, undef, undef, undef, undef, undef, undef, undef, undef, undef, undef, undef, undef, undef, undef, undef, undef, undef, undef], []⟩) (by kernel_rfl) ?_
    refine wp_seq ?_
    refine lwp_list ?_
    refine ls_move (x := x7) (by kernel_rfl) (by kernel_rfl) ?_
    refine ls_d (d := some 12) (by kernel_rfl) (by kernel_rfl) HA_1 (d_slit (zc := #[.int .u8 0]) Try.underlying30 Try.sizeOf5 (by decide) (.inr ⟨by decide, _, Try.zeroValue5, (by kernel_rfl)⟩) (by kernel_rfl) (by kernel_rfl) H) (fun x12 h_2 w_2 H HA_2 => ?_)
    refine ls_d (d := some 13) (by kernel_rfl) (by kernel_rfl) HA_2 (d_call (by kernel_rfl) (by kernel_rfl) H) (fun x13 h_3 w_3 H HA_3 => ?_)
    refine ls_move (x := x13) (by kernel_rfl) (by kernel_rfl) ?_
    refine ls_p (d := some 14) (by kernel_rfl) (by kernel_rfl) (p_tup (by kernel_rfl) H) (fun x14 H => ?_)
    refine ls_p (d := some 15) (by kernel_rfl) (by kernel_rfl) (p_tup (by kernel_rfl) H) (fun x15 H => ?_)
    refine ls_fr (b := ⟨#[(.bool false), x7, undef, undef, undef, undef, x6, x7, x7, x9, x13, x7, x12, x13, x14, x15, undef, undef, undef, undef, undef, undef, undef, undef, undef, undef, undef, undef, undef, undef, undef, undef, undef, undef, undef, undef, undef], []⟩) (by kernel_rfl) ?_
    refine ls_assign (x := x14) (by kernel_rfl) (by kernel_rfl) ?_
    refine ls_assign (x := x15) (by kernel_rfl) (by kernel_rfl) ?_
    refine ls_nil ?_
    refine then_normal ?_
    refine fr_eq (b := ⟨#[(.bool false), x7, x14, x15, undef, undef, x6, x7, x7, x9, x13, x7, x12, x13, x14, x15, undef, undef, undef, undef, undef, undef, undef, undef, undef, undef, undef, undef, undef, undef, undef, undef, undef, undef, undef, undef, undef], []⟩) (by kernel_rfl) ?_
    refine wp_seq ?_
    refine lwp_list ?_
    refine ls_move (x := x7) (by kernel_rfl) (by kernel_rfl) ?_
    refine ls_d (d := some 18) (by kernel_rfl) (by kernel_rfl) HA_3 (d_call (by kernel_rfl) (by kernel_rfl) H) (fun x18 h_4 w_4 H HA_4 => ?_)
    refine ls_move (x := x18) (by kernel_rfl) (by kernel_rfl) ?_
    refine ls_p (d := some 19) (by kernel_rfl) (by kernel_rfl) (p_tup (by kernel_rfl) H) (fun x19 H => ?_)
    refine ls_p (d := some 20) (by kernel_rfl) (by kernel_rfl) (p_tup (by kernel_rfl) H) (fun x20 H => ?_)
    refine ls_assign (x := x19) (by kernel_rfl) (by kernel_rfl) ?_
    refine ls_fr (b := ⟨#[(.bool false), x7, x14, x15, x19, undef, x6, x7, x7, x9, x13, x7, x12, x13, x14, x15, x18, x7, x18, x19, x20, undef, undef, undef, undef, undef, undef, undef, undef, undef, undef, undef, undef, undef, undef, undef, undef], []⟩) (by kernel_rfl) ?_
    refine ls_assign (x := x20) (by kernel_rfl) (by kernel_rfl) ?_
    refine ls_nil ?_
    refine then_normal ?_
    refine fr_eq (b := ⟨#[(.bool false), x7, x14, x15, x19, x20, x6, x7, x7, x9, x13, x7, x12, x13, x14, x15, x18, x7, x18, x19, x20, undef, undef, undef, undef, undef, undef, undef, undef, undef, undef, undef, undef, undef, undef, undef, undef], []⟩) (by kernel_rfl) ?_
    refine wp_seq ?_
    refine lwp_list ?_
    refine ls_move (x := x14) (by kernel_rfl) (by kernel_rfl) ?_
    refine ls_d (d := some 22) (by kernel_rfl) (by kernel_rfl) HA_4 (d_slit (zc := #[.int .u8 0]) Try.underlying30 Try.sizeOf5 (by decide) (.inr ⟨by decide, _, Try.zeroValue5, (by kernel_rfl)⟩) (by kernel_rfl) (by kernel_rfl) H) (fun x22 h_5 w_5 H HA_5 => ?_)
    refine ls_d (d := some 23) (by kernel_rfl) (by kernel_rfl) HA_5 (d_call (by kernel_rfl) (by kernel_rfl) H) (fun x23 h_6 w_6 H HA_6 => ?_)
    refine ls_move (x := x23) (by kernel_rfl) (by kernel_rfl) ?_
    refine ls_and [(), (), ()] (fun K a w => ∃ (D : Nat → Value) (x27 : Value), a = ⟨#[(.bool false), x7, x14, x15, x19, x20, x6, x7, x7, x9, x13, x7, x12, x13, x14, x15, x18, x7, x18, x19, x20, x14, x22, x23, x23, (D 0), (D 1), x27, undef, undef, undef, undef, undef, undef, undef, undef, undef], []⟩ ∧ At w0 w h_6 ∧ K x27) H (fun hb_2 H => ?_) (fun hb_2 H => ?_) ?_
    · refine ls_move (x := x15) (by rw [hb_2]; kernel_rfl) (by kernel_rfl) ?_
      refine ls_p (d := some 26) (by kernel_rfl) (by rw [hb_2]; kernel_rfl) (p_sEq (by kernel_rfl) (by kernel_rfl) H) (fun x26 H => ?_)
      refine ls_fr (b := ⟨#[(.bool false), x7, x14, x15, x19, x20, x6, x7, x7, x9, x13, x7, x12, x13, x14, x15, x18, x7, x18, x19, x20, x14, x22, x23, x23, x15, x26, undef, undef, undef, undef, undef, undef, undef, undef, undef, undef], []⟩) (by kernel_rfl) ?_
      refine ls_pick_t (x := x26) (by kernel_rfl) (by rw [hb_2]; kernel_rfl) (by kernel_rfl) ?_
      refine ls_nil ?_
      refine then_normal ?_
      exact ⟨(fun i => ([x15, x26]).getD i undef), x26, by kernel_rfl, HA_6, H⟩
    · refine ls_skip (d := some 25) (by kernel_rfl) (by rw [hb_2]; kernel_rfl) ?_
      refine ls_skip (d := some 26) (by kernel_rfl) (by rw [hb_2]; kernel_rfl) ?_
      refine ls_fr (b := ⟨#[(.bool false), x7, x14, x15, x19, x20, x6, x7, x7, x9, x13, x7, x12, x13, x14, x15, x18, x7, x18, x19, x20, x14, x22, x23, x23, undef, undef, undef, undef, undef, undef, undef, undef, undef, undef, undef, undef], []⟩) (by kernel_rfl) ?_
      refine ls_pick_f (y := (.bool false)) (by kernel_rfl) (by rw [hb_2]; kernel_rfl) (by kernel_rfl) ?_
      refine ls_nil ?_
      refine then_normal ?_
      exact ⟨(fun i => ([undef, undef]).getD i undef), (.bool false), by kernel_rfl, HA_6, H⟩
    · rintro _ w_7 ⟨D, x27, rfl, HA_7, H⟩
      refine ls_move (x := x27) (by kernel_rfl) (by kernel_rfl) ?_
      refine ls_andh [(), (), (), ()] (fun K a w => ∃ (D_1 : Nat → Value) (x32 : Value) (h_7 : Heap), a = ⟨#[(.bool false), x7, x14, x15, x19, x20, x6, x7, x7, x9, x13, x7, x12, x13, x14, x15, x18, x7, x18, x19, x20, x14, x22, x23, x23, (D 0), (D 1), x27, x27, (D_1 0), (D_1 1), (D_1 2), x32, undef, undef, undef, undef], []⟩ ∧ At w0 w h_7 ∧ K x32 h_7) H (fun hb_1 H => ?_) (fun hb_1 H => ?_) ?_
      · refine ls_move (x := x19) (by rw [hb_1]; kernel_rfl) (by kernel_rfl) ?_
        refine ls_d (d := some 30) (by kernel_rfl) (by rw [hb_1]; kernel_rfl) HA_7 (d_slit (zc := #[.int .u8 0]) Try.underlying30 Try.sizeOf5 (by decide) (.inr ⟨by decide, _, Try.zeroValue5, (by kernel_rfl)⟩) (by kernel_rfl) (by kernel_rfl) H) (fun x30 h_8 w_10 H HA_10 => ?_)
        refine ls_d (d := some 31) (by kernel_rfl) (by rw [hb_1]; kernel_rfl) HA_10 (d_call (by kernel_rfl) (by kernel_rfl) H) (fun x31 h_9 w_11 H HA_11 => ?_)
        refine ls_pick_t (x := x31) (by kernel_rfl) (by rw [hb_1]; kernel_rfl) (by kernel_rfl) ?_
        refine ls_nil ?_
        refine then_normal ?_
        exact ⟨(fun i => ([x19, x30, x31]).getD i undef), x31, h_9, by kernel_rfl, HA_11, H⟩
      · refine ls_skip (d := some 29) (by kernel_rfl) (by rw [hb_1]; kernel_rfl) ?_
        refine ls_skip (d := some 30) (by kernel_rfl) (by rw [hb_1]; kernel_rfl) ?_
        refine ls_skip (d := some 31) (by kernel_rfl) (by rw [hb_1]; kernel_rfl) ?_
        refine ls_pick_f (y := (.bool false)) (by kernel_rfl) (by rw [hb_1]; kernel_rfl) (by kernel_rfl) ?_
        refine ls_nil ?_
        refine then_normal ?_
        exact ⟨(fun i => ([undef, undef, undef]).getD i undef), (.bool false), h_6, by kernel_rfl, HA_7, H⟩
      · rintro _ w_8 ⟨D_1, x32, h_7, rfl, HA_8, H⟩
        refine ls_move (x := x32) (by kernel_rfl) (by kernel_rfl) ?_
        refine ls_and [(), (), ()] (fun K a w => ∃ (D_2 : Nat → Value) (x36 : Value), a = ⟨#[(.bool false), x7, x14, x15, x19, x20, x6, x7, x7, x9, x13, x7, x12, x13, x14, x15, x18, x7, x18, x19, x20, x14, x22, x23, x23, (D 0), (D 1), x27, x27, (D_1 0), (D_1 1), (D_1 2), x32, x32, (D_2 0), (D_2 1), x36], []⟩ ∧ At w0 w h_7 ∧ K x36) H (fun hb H => ?_) (fun hb H => ?_) ?_
        · refine ls_move (x := x20) (by rw [hb]; kernel_rfl) (by kernel_rfl) ?_
          refine ls_p (d := some 35) (by kernel_rfl) (by rw [hb]; kernel_rfl) (p_not (by kernel_rfl) H) (fun x35 H => ?_)
          refine ls_pick_t (x := x35) (by kernel_rfl) (by rw [hb]; kernel_rfl) (by kernel_rfl) ?_
          refine ls_nil ?_
          refine then_normal ?_
          exact ⟨(fun i => ([x20, x35]).getD i undef), x35, by kernel_rfl, HA_8, H⟩
        · refine ls_skip (d := some 34) (by kernel_rfl) (by rw [hb]; kernel_rfl) ?_
          refine ls_skip (d := some 35) (by kernel_rfl) (by rw [hb]; kernel_rfl) ?_
          refine ls_pick_f (y := (.bool false)) (by kernel_rfl) (by rw [hb]; kernel_rfl) (by kernel_rfl) ?_
          refine ls_nil ?_
          refine then_normal ?_
          exact ⟨(fun i => ([undef, undef]).getD i undef), (.bool false), by kernel_rfl, HA_8, H⟩
        · rintro _ w_9 ⟨D_2, x36, rfl, HA_9, H⟩
          refine ls_assign (x := x36) (by kernel_rfl) (by kernel_rfl) ?_
          refine ls_nil ?_
          refine then_normal ?_
          refine fr_eq (b := ⟨#[x36, x7, x14, x15, x19, x20, x6, x7, x7, x9, x13, x7, x12, x13, x14, x15, x18, x7, x18, x19, x20, x14, x22, x23, x23, (D 0), (D 1), x27, x27, (D_1 0), (D_1 1), (D_1 2), x32, x32, (D_2 0), (D_2 1), x36], []⟩) (by kernel_rfl) ?_
          refine wp_ret ?_
          exact end1 (Try.results12) (by kernel_rfl) (by kernel_rfl) HA_9 H _ (.inr rfl)

end Go.Proofs.Ytlcklnbgknhhkaa

end

section
/- The line discipline: how much it has; bytes one by one; the example. -/
set_option linter.unusedSimpArgs false
set_option linter.unusedVariables false
namespace Go.Proofs.Ytlcklnbgknhhkaa
open Go Go.HW

section
variable {h0 h : Heap} {F : List HP} {R : Value → Heap → Prop}
theorem same_spec {k : IntKind} {v w : Value} {l m : List Int} (hcap : l.length < 4611686018427387904) (hv : Ints k h v l) (hw : Ints k h w m) (H : R (.bool (decide (l = m))) h) : betonyref01_Same_c v w h R := by
  apply betonyref01_Same_runs
  unfold betonyref01_Same_S
  rw [hv.len, hw.len]
  simp only [ev_ne, ev_if, bne_iff_ne, ne_eq]
  by_cases hl : l.length = m.length
  · rw [if_neg (by simp [hl])]
    refine ⟨fun s h' => ∃ i : Nat, s = .int .i64 i ∧ i ≤ l.length ∧ h' = h ∧ l.take i = m.take i, fun s _ => match s with | .int _ i => (l.length - i).toNat | _ => 0, ⟨0, rfl, by omega, rfl, rfl⟩, ?_⟩
    rintro _ h' ⟨i, rfl, hi, e, ht⟩
    unfold betonyref01_Same_l1
    rw [hv.len]
    simp only [ev_lt, ev_if, decide_eq_true_eq]
    rw [e]
    by_cases hlt : i < l.length
    · rw [if_pos (by omega)]
      have g1 : l[i]? = some l[i] := by simp
      have g2 : m[i]? = some (m[i]'(by omega)) := by simp
      generalize l[i] = r at g1
      generalize m[i]'(by omega) = q at g2
      rw [Seq.ld hv g1 rfl, Seq.ld hw g2 rfl]
      simp only [ev_ne, ev_if, bne_iff_ne, ne_eq]
      by_cases hrq : r = q
      · subst hrq
        have wi : IntKind.i64.wrap ((i : Int) + 1) = ((i + 1 : Nat) : Int) := by rw [wrap_i64 (by omega) (by omega)]; rfl
        rw [if_neg (by simp), ev_add, wi]
        exact ⟨⟨i + 1, rfl, by omega, by trivial, by rw [List.take_add_one, List.take_add_one, g1, g2, ht]⟩, by simp only []; omega⟩
      · have : l ≠ m := fun e => by subst e; rw [g1] at g2; cases g2; exact hrq rfl
        rw [if_pos hrq]
        simpa [this] using H
    · rw [if_neg (by omega)]
      have : l = m := by
        rw [List.take_of_length_le (by omega), List.take_of_length_le (by omega)] at ht
        exact ht
      simpa [this] using H
  · rw [if_pos (by omega)]
    have : l ≠ m := fun e => hl (by rw [e])
    simpa [this] using H

end
def D.bw (d : D) : Nat := d.ln.length * 8 + d.ra.length + d.ls.length + sumL d.ls
theorem wt_eq (d : D) : d.wt = d.bw + d.ec.length := by unfold D.wt D.bw; omega
theorem emit_bw (d : D) (l : List Int) : (d.emit l).bw = d.bw ∧ (d.emit l).ec.length = d.ec.length + l.length := ⟨rfl, by unfold D.emit; simp⟩
theorem show_bw (d : D) (c : Int) : (d.show c).bw = d.bw ∧ (d.show c).ec.length ≤ d.ec.length + 2 := by
  unfold D.show; split
  · have := emit_bw d (d.pict c); have := (pict_len d c).1; omega
  · omega
theorem bell_bw (d : D) : d.bell.bw = d.bw ∧ d.bell.ec.length ≤ d.ec.length + 1 := by
  unfold D.bell; split
  · have := emit_bw d [7]; simp at this; omega
  · omega
theorem put1_bw (d : D) (c : Int) : (d.put1 c).bw = d.bw ∧ (d.put1 c).ec.length ≤ d.ec.length + 3 := by
  unfold D.put1; split
  · have h1 := emit_bw d [c]; have h2 := show_bw (d.emit [c]) c; simp at h1; omega
  · have := show_bw d c; omega
theorem put_bw (d : D) (c : Int) : (d.put c).1.bw ≤ d.bw + 8 ∧ (d.put c).1.ec.length ≤ d.ec.length + 3 := by
  unfold D.put
  split
  · have h1 := put1_bw { d with ra := d.ra ++ [c] } c
    have e : ({ d with ra := d.ra ++ [c] } : D).bw = d.bw + 1 := by unfold D.bw; simp only [List.length_append, List.length_cons, List.length_nil]; omega
    simp only at h1 ⊢; omega
  · split
    · have h1 := put1_bw { d with ln := d.ln ++ [c] } c
      have e : ({ d with ln := d.ln ++ [c] } : D).bw = d.bw + 8 := by unfold D.bw; simp only [List.length_append, List.length_cons, List.length_nil]; omega
      simp only at h1 ⊢; omega
    · have := bell_bw d; simp only; omega
theorem cut_bw (d : D) : d.cutLast.bw ≤ d.bw ∧ d.cutLast.ec = d.ec := ⟨by unfold D.cutLast D.bw; simp only [List.length_dropLast]; omega, rfl⟩
theorem back_bw (d : D) : d.back.bw ≤ d.bw := by
  have := cut_bw d
  unfold D.back; split
  · omega
  · have := (emit_bw d.cutLast (backs (d.pict (d.ln.getLastD 0)).length)).1; omega
theorem backW_bw (p : Int → Bool) : ∀ (n : Nat) (d : D), (D.backW p n d).bw ≤ d.bw
  | 0, d => Nat.le_refl _
  | n + 1, d => by
    rw [D.backW]; split
    · exact Nat.le_trans (backW_bw p n d.back) (back_bw d)
    · omega
theorem backWhile_bw (d : D) (p : Int → Bool) : (d.backWhile p).bw ≤ d.bw ∧ (d.backWhile p).ec.length ≤ d.ec.length + d.bw := by
  have h1 : (d.backWhile p).bw ≤ d.bw := backW_bw p _ d
  have h2 := backWhile_wt d p
  rw [wt_eq, wt_eq] at h2
  omega
theorem ready_bw (d : D) : d.ready.bw ≤ d.bw + 1 ∧ d.ready.ec.length ≤ d.ec.length + 1 := by
  unfold D.ready
  split
  · have h1 := bell_bw d
    have e : ({ d.bell with ln := [] } : D).bw ≤ d.bell.bw := by unfold D.bw; simp only [List.length_nil]; omega
    simp only at *; omega
  · refine ⟨?_, by simp only; omega⟩
    unfold D.bw; simp only [List.length_append, List.length_cons, List.length_nil, sumL_append]; omega
theorem showAll_bw (l : List Int) : ∀ d : D, (d.showAll l).bw = d.bw ∧ (d.showAll l).ec.length ≤ d.ec.length + 2 * l.length := by
  unfold D.showAll
  induction l with
  | nil => intro d; simp
  | cons a l ih =>
    intro d
    rw [List.foldl_cons, List.length_cons]
    have h1 := ih (d.show a); have h2 := show_bw d a; omega
theorem ln_bw (d : D) : d.ln.length * 8 ≤ d.bw := by unfold D.bw; omega
theorem extended_bw (d : D) (c : Int) : (d.extended c).1.bw ≤ d.bw ∧ (d.extended c).1.ec.length ≤ d.ec.length + 2 * d.bw + 4 := by
  unfold D.extended
  split
  · simp only; omega
  split
  · simp only
    split
    · have h1 := emit_bw ({ d with nx := true } : D) [94, 8]
      have e : ({ d with nx := true } : D).bw = d.bw := rfl
      simp at h1; omega
    · have e : ({ d with nx := true } : D).bw = d.bw := rfl
      simp only at e ⊢; omega
  split
  · have h1 := backWhile_bw d blank; have h2 := backWhile_bw (d.backWhile blank) (fun c => !blank c); simp only; omega
  split
  · unfold D.reprint
    have h1 := show_bw d c
    have hl := ln_bw d
    simp only
    split
    · have h2 := emit_bw (d.show c) [10]; have h3 := showAll_bw d.ln ((d.show c).emit [10]); simp at h2; omega
    · have h3 := showAll_bw d.ln (d.show c); omega
  · simp only; omega
theorem kill_bw (d : D) (c : Int) : (d.kill c).bw ≤ d.bw ∧ (d.kill c).ec.length ≤ d.ec.length + d.bw + 3 := by
  unfold D.kill
  have h1 := backWhile_bw d (fun _ => true)
  simp only
  generalize d.backWhile (fun _ => true) = d1 at *
  have h2 : (if (!d1.loc 4) = true then d1.show c else d1).bw = d1.bw ∧ (if (!d1.loc 4) = true then d1.show c else d1).ec.length ≤ d1.ec.length + 2 := by
    split
    · exact show_bw d1 c
    · omega
  generalize (if (!d1.loc 4) = true then d1.show c else d1) = d2 at *
  split
  · have h3 := emit_bw d2 [10]; simp at h3; omega
  · omega
theorem edit_bw (d : D) (c : Int) : (d.edit c).bw ≤ d.bw + 9 ∧ (d.edit c).ec.length ≤ d.ec.length + 2 * d.bw + 10 := by
  unfold D.edit
  have he := extended_bw d c
  have hb : 0 < d.ln.length → d.back.bw ≤ d.bw ∧ d.back.ec.length ≤ d.ec.length + d.bw := fun hl => by
    have h1 := back_bw d
    have h2 := back_wt d (by intro e; rw [e] at hl; simp at hl)
    rw [wt_eq, wt_eq] at h2; omega
  split
  · omega
  split
  · rename_i h; simp at h; have := hb (by omega); omega
  split
  · simp only
    by_cases hl : 0 < d.ln.length
    · rw [if_pos hl]
      have h1 := hb hl
      split
      · have h2 := show_bw d.back c; omega
      · omega
    · rw [if_neg hl]
      split
      · have h2 := show_bw d c; omega
      · omega
  split
  · have := kill_bw d c; omega
  split
  · have := ready_bw d; omega
  have hp := put_bw d c
  split
  · split
    · have := ready_bw (d.put c).1; omega
    · omega
  · omega
theorem flush_bw (d : D) : d.flush.bw ≤ d.bw := by unfold D.flush D.bw sumL; simp
theorem byte_bw (d : D) (c : Int) : (d.byte c).1.bw ≤ d.bw + 9 ∧ (d.byte c).1.ec.length ≤ d.ec.length + 2 * d.bw + 10 := by
  unfold D.byte
  split
  · have h1 := put_bw ({ d with nx := false } : D) (if d.inn 1 = true then c % 128 else c)
    have e : ({ d with nx := false } : D).bw = d.bw := rfl
    simp only at h1 ⊢; omega
  split
  · simp only; omega
  have fw : (d.flow (d.t.map c).1).1.bw = d.bw ∧ (d.flow (d.t.map c).1).1.ec = d.ec := by unfold D.flow; split <;> (try split) <;> (try split) <;> (try split) <;> exact ⟨rfl, rfl⟩
  generalize (d.flow (d.t.map c).1) = fd at *
  generalize (d.t.map c).1 = v at *
  rw [← fw.1, ← fw.2]
  split
  · simp only; omega
  split
  · have h1 := show_bw fd.1 v
    have h2 := flush_bw (fd.1.show v)
    unfold D.sig
    simp only
    split
    · have e : ({ (fd.1.show v).flush with st := false } : D).bw = (fd.1.show v).flush.bw := rfl
      have e2 : ({ (fd.1.show v).flush with st := false } : D).ec = (fd.1.show v).ec := rfl
      rw [e, e2]; omega
    · omega
  split
  · exact edit_bw _ _
  · have := put_bw fd.1 v; simp only; omega
theorem input_bw (d : D) (c : Int) : (d.input c).1.bw ≤ d.bw + 9 ∧ (d.input c).1.ec.length ≤ 2 * d.bw + 10 := by
  have h := byte_bw ({ d with ec := [] } : D) c
  have e : ({ d with ec := [] } : D).bw = d.bw := rfl
  unfold D.input
  simp only [List.length_nil, Nat.zero_add] at h ⊢
  rw [e] at h; exact h
def feedL : List Int → D × List Int × Int → D × List Int × Int
  | [], x => x
  | c :: l, x => feedL l ((x.1.input c).1, x.2.1 ++ (x.1.input c).1.ec, if (x.1.input c).2 ≠ 0 then (x.1.input c).2 else x.2.2)
theorem feedL_app : ∀ (a b : List Int) (x : D × List Int × Int), feedL (a ++ b) x = feedL b (feedL a x)
  | [], b, x => rfl
  | c :: a, b, x => by rw [List.cons_append, feedL, feedL_app a b, feedL]
theorem feedL_bw : ∀ (l : List Int) (x : D × List Int × Int), (feedL l x).1.bw ≤ x.1.bw + 9 * l.length ∧ (feedL l x).2.1.length ≤ x.2.1.length + (2 * (x.1.bw + 9 * l.length) + 10) * l.length
  | [], x => by rw [feedL]; simp
  | c :: l, x => by
    rw [feedL, List.length_cons]
    have h1 := input_bw x.1 c
    obtain ⟨h2, h4⟩ := feedL_bw l ((x.1.input c).1, x.2.1 ++ (x.1.input c).1.ec, if (x.1.input c).2 ≠ 0 then (x.1.input c).2 else x.2.2)
    simp only [List.length_append] at h2 h4
    have m1 : (2 * ((x.1.input c).1.bw + 9 * l.length) + 10) * l.length ≤ (2 * (x.1.bw + 9 * (l.length + 1)) + 10) * l.length := Nat.mul_le_mul_right _ (by omega)
    refine ⟨by omega, ?_⟩
    rw [Nat.mul_add (2 * (x.1.bw + 9 * (l.length + 1)) + 10), Nat.mul_one]; omega
theorem feedL_ec : ∀ (l : List Int) (c : Int) (x : D × List Int × Int), (feedL (c :: l) x).1.ec.length ≤ 2 * (x.1.bw + 9 * l.length) + 10
  | [], c, x => by rw [feedL, feedL]; have := input_bw x.1 c; simp only [List.length_nil]; omega
  | a :: l, c, x => by
    rw [feedL]
    have h := feedL_ec l a ((x.1.input c).1, x.2.1 ++ (x.1.input c).1.ec, if (x.1.input c).2 ≠ 0 then (x.1.input c).2 else x.2.2)
    have h1 := input_bw x.1 c
    rw [List.length_cons]
    simp only at h ⊢; omega
theorem feedL_wt (l : List Int) (x : D × List Int × Int) : (feedL l x).1.wt ≤ 3 * (x.1.wt + 9 * l.length) + 10 := by
  have h1 := (feedL_bw l x).1
  rw [wt_eq, wt_eq]
  cases l with
  | nil => rw [feedL] at *; simp only [List.length_nil] at *; omega
  | cons c l => have h2 := feedL_ec l c x; rw [List.length_cons] at *; omega

section
variable {h0 h : Heap} {F : List HP} {R : Value → Heap → Prop} {k : Nat} {d : D}
theorem feed_spec {u : Value} {l : List Int} (q : HW.Rd (encI .u8) 1 h0 (Dc k d :: F) u l) (q0 : ∀ d', HW.Rd (encI .u8) 1 h0 (Dc k d' :: F) u l) (s : HW.Sep h0 (Dc k d :: F) h) (hl : ∀ c ∈ l, 0 ≤ c ∧ c < 256) (hn : l.length ≤ 1000) (hb : d.wt ≤ 1000000) (H : ∀ v h', HW.Sep h0 (Sl (encI .u8) 1 v (feedL l (d, [], 0)).2.1 :: Dc k (feedL l (d, [], 0)).1 :: F) h' → R (.tuple #[v, .int .i64 (feedL l (d, [], 0)).2.2]) h') : betonylaw18_feed_c (ptr k 0) u h R := by
  apply betonylaw18_feed_runs
  unfold betonylaw18_feed_S
  refine ⟨fun t h' => ∃ (i : Nat) (v : Value), i ≤ l.length ∧ t = (v, .int .i64 (feedL (l.take i) (d, [], 0)).2.2, .int .i64 i) ∧ HW.Sep h0 (Sl (encI .u8) 1 v (feedL (l.take i) (d, [], 0)).2.1 :: Dc k (feedL (l.take i) (d, [], 0)).1 :: F) h', fun t _ => match t.2.2 with | .int _ i => (l.length - i).toNat | _ => 0, ⟨0, .slice none 0 0, Nat.zero_le _, rfl, sep_nil s⟩, ?_⟩
  rintro _ h1 ⟨i, v, hi, rfl, s1⟩
  simp only []
  unfold betonylaw18_feed_l1
  have q1 : Ints .u8 h1 u l := (q0 _).at1 s1
  rw [q1.len, ev_lt, ev_if]
  by_cases hlt : i < l.length
  · rw [if_pos (decide_eq_true (by omega))]
    have hg : l[i]? = some l[i] := List.getElem?_eq_getElem hlt
    have hc := hl l[i] (List.getElem_mem hlt)
    have ht : l.take (i + 1) = l.take i ++ [l[i]] := by rw [List.take_add_one, hg]; rfl
    generalize l[i] = c at hg hc ht
    have hw := feedL_wt (l.take i) (d, [], 0)
    have hb2 := (feedL_bw (l.take i) (d, [], 0))
    have e : feedL (l.take (i + 1)) (d, [], 0) = (((feedL (l.take i) (d, [], 0)).1.input c).1, (feedL (l.take i) (d, [], 0)).2.1 ++ ((feedL (l.take i) (d, [], 0)).1.input c).1.ec, if ((feedL (l.take i) (d, [], 0)).1.input c).2 ≠ 0 then ((feedL (l.take i) (d, [], 0)).1.input c).2 else (feedL (l.take i) (d, [], 0)).2.2) := by rw [ht, feedL_app]; rfl
    have hbd := wt_eq d
    rw [List.length_take] at hw hb2
    generalize feedL (l.take i) (d, [], 0) = x at s1 hw hb2 e
    obtain ⟨d1, o, sg⟩ := x
    simp only at s1 hw hb2 e
    have mm : (2 * (d.bw + 9 * min i l.length) + 10) * min i l.length ≤ (2 * (1000000 + 9 * 1000) + 10) * 1000 := Nat.mul_le_mul (by omega) (by omega)
    simp only [List.length_nil] at hb2
    rw [Seq.ld q1 hg rfl]
    have hec := input_bw d1 c
    have hbw := wt_eq d1
    refine input_spec s1.b1 hc (by omega) (fun v2 h2 s2 qe => ?_)
    rw [tup0, tup1]
    refine s2.b1.app (enc := encI .u8) (sz := 1) rfl (by decide) (encI_len .u8) (encI_cell .u8) qe (by omega) (by decide) (fun v3 h3 cv3 s3 => ?_)
    rw [ev_ne, ev_if]
    unfold betonylaw18_feed_j2
    by_cases hs : (d1.input c).2 ≠ 0
    · rw [if_pos hs] at e
      rw [if_pos (by simpa using hs), ev_add, wrap_i64 (by omega) (by omega)]
      refine ⟨⟨i + 1, v3, hlt, by rw [e, Int.natCast_add]; rfl, ?_⟩, by simp only; omega⟩
      rw [e]; exact s3
    · rw [if_neg hs] at e
      rw [if_neg (by simpa using hs), ev_add, wrap_i64 (by omega) (by omega)]
      refine ⟨⟨i + 1, v3, hlt, by rw [e, Int.natCast_add]; rfl, ?_⟩, by simp only; omega⟩
      rw [e]; exact s3
  · have : i = l.length := by omega
    subst this
    rw [if_neg (by simp)]
    rw [List.take_of_length_le (Nat.le_refl _)] at s1 ⊢
    exact H v h1 s1
theorem awake18 (H : ∀ h', Ext h h' → R (.bool true) h') : betonylaw18_awake_c h R := by
  apply betonylaw18_awake_runs
  unfold betonylaw18_awake_S
  refine rplain_spec (fun h1 e1 => ?_)
  have hr : plainT.right = true := by decide +kernel
  refine new_spec (t := plainT) ((HW.Sep.start h).ext' e1) (fun hf => by rw [hr] at hf; cases hf) (fun _ k h2 s2 => ?_)
  have ee : ∀ {k : Nat} {K : Value → Prop}, sEqlNil (ptr k 0) K = K (.bool false) := by intro k K; simp only [ptr, ev_eqlNil, Option.isNone_some]
  rw [ee, ev_if, if_neg (by decide)]
  refine s2.slit (enc := encI .u8) (sz := 1) (encI_len .u8) [97, 98, 127, 99, 13] rfl ⟨rfl, Nat.le_of_ble_eq_true rfl, rfl, Nat.le_of_ble_eq_true rfl, rfl, Nat.le_of_ble_eq_true rfl, rfl, Nat.le_of_ble_eq_true rfl, rfl, Nat.le_of_ble_eq_true rfl, rfl⟩ (fun v h3 cv s3 => ?_)
  refine feed_spec (l := [97, 98, 127, 99, 13]) Rd.own1 (fun d' => Rd.own1) s3.b1 (by decide) (by decide) (by decide) (fun v2 h4 s4 => ?_)
  rw [tup0, tup1]
  have e0 : (feedL [97, 98, 127, 99, 13] (D0 plainT, [], 0)).2.1 = [97, 98, 8, 32, 8, 99, 10] := by decide +kernel
  have es : (feedL [97, 98, 127, 99, 13] (D0 plainT, [], 0)).2.2 = 0 := by decide +kernel
  have er : ((feedL [97, 98, 127, 99, 13] (D0 plainT, [], 0)).1.read 9).2 = ([97, 99, 10], false) := by decide +kernel
  rw [e0] at s4
  rw [es]
  refine read_spec s4.b1 (by have := feedL_wt [97, 98, 127, 99, 13] (D0 plainT, [], 0); have e : (D0 plainT).wt = 0 := rfl; simp only [List.length_cons, List.length_nil] at this; omega) (fun v3 h5 s5 => ?_)
  rw [er] at s5 ⊢
  rw [tup0, tup1]
  refine s5.slit (enc := encI .u8) (sz := 1) (encI_len .u8) [97, 98, 8, 32, 8, 99, 10] rfl (fill_k (by kernel_rfl)) (fun v4 h6 cv4 s6 => ?_)
  refine same_spec (k := .u8) (by decide) s6.b3.seq s6.seq ?_
  rw [decide_eq_true rfl, ev_and, if_pos rfl, ev_eq]
  refine and_ext (y := true) (fun _ K' HK => ?_) (fun h7 e7 => ?_)
  · refine (HW.Sep.start h6).slit (enc := encI .u8) (sz := 1) (encI_len .u8) [97, 99, 10] rfl ⟨rfl, Nat.le_of_ble_eq_true rfl, rfl, Nat.le_of_ble_eq_true rfl, rfl, Nat.le_of_ble_eq_true rfl, rfl⟩ (fun v5 h8 cv5 s7 => ?_)
    refine same_spec (k := .u8) (l := [97, 99, 10]) (by decide) (s6.b1.seq.ext s7.ext) s7.seq ?_
    rw [decide_eq_true rfl]; exact HK _ s7.ext
  · show sAnd (.bool true) (fun k => sNot (.bool false) fun x35 => k x35) _
    rw [ev_and, if_pos rfl, ev_not]
    exact H _ (s6.ext.trans e7)
end
end Go.Proofs.Ytlcklnbgknhhkaa

end

section
/- The shallow reading of one function, and that the function does it. Written by a program. -/
set_option linter.unusedVariables false
namespace Go.Proofs.Ytlcklnbgknhhkaa
open Go Go.HW

def math_bits_Mul_S (x0 x1 : Value) (h : Heap) (R : Value → Heap → Prop) : Prop :=
  math_bits_Mul64_c x0 x1 h fun x25 h => 
  sTup x25 0 fun x26 =>
  sTup x25 1 fun x27 =>
  R (.tuple #[x26, x27]) h
set_option maxRecDepth 100000 in
theorem math_bits_Mul_runs {x0 x1 : Value} {h : Heap} {R : Value → Heap → Prop} (H : math_bits_Mul_S x0 x1 h R) : math_bits_Mul_c x0 x1 h R := by
  unfold math_bits_Mul_S at H
  refine runs_of (b := ⟨#[x0, x1, undef, undef, undef, undef, undef, undef, undef, undef, undef, undef, undef, undef, undef, undef, undef, undef, undef, undef, undef, undef, undef, undef, undef, undef, undef, undef, undef, undef], []⟩) Try.call90 Try.func90 rfl (by kernel_rfl) (fun w0 HA => ?_)
  refine wp_seq ?_
  refine lwp_list ?_
  refine ls_assign (x := (.int .u64 0)) (by kernel_rfl) (by kernel_rfl) ?_
  refine ls_assign (x := (.int .u64 0)) (by kernel_rfl) (by kernel_rfl) ?_
  refine ls_nil ?_
  refine then_normal ?_
  refine fr_eq (b := ⟨#[x0, x1, undef, undef, (.int .u64 0), (.int .u64 0), undef, undef, undef, undef, undef, undef, undef, undef, undef, undef, undef, undef, undef, undef, undef, undef, undef, undef, undef, undef, undef, undef, undef, undef], []⟩) (by kernel_rfl) ?_
  refine wp_seq ?_
  refine wp_cond_false rfl ?_
  refine wp_skip ?_
  refine then_normal ?_
  refine fr_eq (b := ⟨#[x0, x1, undef, undef, (.int .u64 0), (.int .u64 0), undef, undef, undef, undef, undef, undef, undef, undef, undef, undef, undef, undef, undef, undef, undef, undef, undef, undef, undef, undef, undef, undef, undef, undef], []⟩) (by kernel_rfl) ?_
  refine wp_seq ?_
  refine lwp_list ?_
  refine ls_move (x := x0) (by kernel_rfl) (by kernel_rfl) ?_
  refine ls_move (x := x1) (by kernel_rfl) (by kernel_rfl) ?_
  refine ls_d (d := some 25) (by kernel_rfl) (by kernel_rfl) HA (d_call (by kernel_rfl) (by kernel_rfl) H) (fun x25 h w H HA => ?_)
  refine ls_move (x := x25) (by kernel_rfl) (by kernel_rfl) ?_
  refine ls_p (d := some 26) (by kernel_rfl) (by kernel_rfl) (p_tup (by kernel_rfl) H) (fun x26 H => ?_)
  refine ls_p (d := some 27) (by kernel_rfl) (by kernel_rfl) (p_tup (by kernel_rfl) H) (fun x27 H => ?_)
  refine ls_fr (b := ⟨#[x0, x1, undef, undef, (.int .u64 0), (.int .u64 0), undef, undef, undef, undef, undef, undef, undef, undef, undef, undef, undef, undef, undef, undef, undef, undef, x25, x0, x1, x25, x26, x27, undef, undef], []⟩) (by kernel_rfl) ?_
  refine ls_assign (x := x26) (by kernel_rfl) (by kernel_rfl) ?_
  refine ls_assign (x := x27) (by kernel_rfl) (by kernel_rfl) ?_
  refine ls_nil ?_
  refine then_normal ?_
  refine fr_eq (b := ⟨#[x0, x1, undef, undef, (.int .u64 0), (.int .u64 0), undef, undef, x26, x27, undef, undef, undef, undef, undef, undef, undef, undef, undef, undef, undef, undef, x25, x0, x1, x25, x26, x27, undef, undef], []⟩) (by kernel_rfl) ?_
  refine wp_seq ?_
  refine lwp_list ?_
  refine ls_move (x := x26) (by kernel_rfl) (by kernel_rfl) ?_
  refine ls_move (x := x27) (by kernel_rfl) (by kernel_rfl) ?_
  refine ls_assign (x := x26) (by kernel_rfl) (by kernel_rfl) ?_
  refine ls_assign (x := x27) (by kernel_rfl) (by kernel_rfl) ?_
  refine ls_nil ?_
  refine then_normal ?_
  refine fr_eq (b := ⟨#[x0, x1, undef, undef, x26, x27, undef, undef, x26, x27, undef, undef, undef, undef, undef, undef, undef, undef, undef, undef, undef, undef, x25, x0, x1, x25, x26, x27, x26, x27], []⟩) (by kernel_rfl) ?_
  refine wp_ret ?_
  exact end2 (Try.results90) (by kernel_rfl) (by kernel_rfl) (by kernel_rfl) HA H _ (.inr rfl)

end Go.Proofs.Ytlcklnbgknhhkaa

end

section
/- The shallow reading of one function, and that the function does it. Written by a program. -/
set_option linter.unusedVariables false
namespace Go.Proofs.Ytlcklnbgknhhkaa
open Go Go.HW

def math_bits_Mul64_S (x0 x1 : Value) (h : Heap) (R : Value → Heap → Prop) : Prop :=
  sBits .and .u64 x0 (.int .u64 4294967295) fun x15 =>
  sShr .u64 x0 (.int .u64 32) fun x17 =>
  sBits .and .u64 x1 (.int .u64 4294967295) fun x19 =>
  sShr .u64 x1 (.int .u64 32) fun x21 =>
  sMul .u64 x15 x19 fun x24 =>
  sMul .u64 x17 x19 fun x27 =>
  sShr .u64 x24 (.int .u64 32) fun x29 =>
  sAdd .u64 x27 x29 fun x30 =>
  sBits .and .u64 x30 (.int .u64 4294967295) fun x32 =>
  sShr .u64 x30 (.int .u64 32) fun x34 =>
  sMul .u64 x15 x21 fun x38 =>
  sAdd .u64 x32 x38 fun x39 =>
  sMul .u64 x17 x21 fun x42 =>
  sAdd .u64 x42 x34 fun x44 =>
  sShr .u64 x39 (.int .u64 32) fun x46 =>
  sAdd .u64 x44 x46 fun x47 =>
  sMul .u64 x0 x1 fun x50 =>
  R (.tuple #[x47, x50]) h
set_option maxRecDepth 100000 in
theorem math_bits_Mul64_runs {x0 x1 : Value} {h : Heap} {R : Value → Heap → Prop} (H : math_bits_Mul64_S x0 x1 h R) : math_bits_Mul64_c x0 x1 h R := by
  unfold math_bits_Mul64_S at H
  refine runs_of (b := ⟨#[x0, x1, undef, undef, undef, undef, undef, undef, undef, undef, undef, undef, undef, undef, undef, undef, undef, undef, undef, undef, undef, undef, undef, undef, undef, undef, undef, undef, undef, undef, undef, undef, undef, undef, undef, undef, undef, undef, undef, undef, undef, undef, undef, undef, undef, undef, undef, undef, undef, undef, undef], []⟩) Try.call92 Try.func92 rfl (by kernel_rfl) (fun w0 HA => ?_)
  refine wp_seq ?_
  refine lwp_list ?_
  refine ls_assign (x := (.int .u64 0)) (by kernel_rfl) (by kernel_rfl) ?_
  refine ls_assign (x := (.int .u64 0)) (by kernel_rfl) (by kernel_rfl) ?_
  refine ls_nil ?_
  refine then_normal ?_
  refine fr_eq (b := ⟨#[x0, x1, undef, undef, (.int .u64 0), (.int .u64 0), undef, undef, undef, undef, undef, undef, undef, undef, undef, undef, undef, undef, undef, undef, undef, undef, undef, undef, undef, undef, undef, undef, undef, undef, undef, undef, undef, undef, undef, undef, undef, undef, undef, undef, undef, undef, undef, undef, undef, undef, undef, undef, undef, undef, undef], []⟩) (by kernel_rfl) ?_
  refine wp_seq ?_
  refine lwp_list ?_
  refine ls_move (x := x0) (by kernel_rfl) (by kernel_rfl) ?_
  refine ls_p (d := some 15) (by kernel_rfl) (by kernel_rfl) (p_bits (by decide) (by kernel_rfl) (by kernel_rfl) H) (fun x15 H => ?_)
  refine ls_assign (x := x15) (by kernel_rfl) (by kernel_rfl) ?_
  refine ls_nil ?_
  refine then_normal ?_
  refine fr_eq (b := ⟨#[x0, x1, undef, undef, (.int .u64 0), (.int .u64 0), x15, undef, undef, undef, undef, undef, undef, undef, x0, x15, undef, undef, undef, undef, undef, undef, undef, undef, undef, undef, undef, undef, undef, undef, undef, undef, undef, undef, undef, undef, undef, undef, undef, undef, undef, undef, undef, undef, undef, undef, undef, undef, undef, undef, undef], []⟩) (by kernel_rfl) ?_
  refine wp_seq ?_
  refine lwp_list ?_
  refine ls_move (x := x0) (by kernel_rfl) (by kernel_rfl) ?_
  refine ls_p (d := some 17) (by kernel_rfl) (by kernel_rfl) (p_shr (by kernel_rfl) (by kernel_rfl) H) (fun x17 H => ?_)
  refine ls_assign (x := x17) (by kernel_rfl) (by kernel_rfl) ?_
  refine ls_nil ?_
  refine then_normal ?_
  refine fr_eq (b := ⟨#[x0, x1, undef, undef, (.int .u64 0), (.int .u64 0), x15, x17, undef, undef, undef, undef, undef, undef, x0, x15, x0, x17, undef, undef, undef, undef, undef, undef, undef, undef, undef, undef, undef, undef, undef, undef, undef, undef, undef, undef, undef, undef, undef, undef, undef, undef, undef, undef, undef, undef, undef, undef, undef, undef, undef], []⟩) (by kernel_rfl) ?_
  refine wp_seq ?_
  refine lwp_list ?_
  refine ls_move (x := x1) (by kernel_rfl) (by kernel_rfl) ?_
  refine ls_p (d := some 19) (by kernel_rfl) (by kernel_rfl) (p_bits (by decide) (by kernel_rfl) (by kernel_rfl) H) (fun x19 H => ?_)
  refine ls_assign (x := x19) (by kernel_rfl) (by kernel_rfl) ?_
  refine ls_nil ?_
  refine then_normal ?_
  refine fr_eq (b := ⟨#[x0, x1, undef, undef, (.int .u64 0), (.int .u64 0), x15, x17, x19, undef, undef, undef, undef, undef, x0, x15, x0, x17, x1, x19, undef, undef, undef, undef, undef, undef, undef, undef, undef, undef, undef, undef, undef, undef, undef, undef, undef, undef, undef, undef, undef, undef, undef, undef, undef, undef, undef, undef, undef, undef, undef], []⟩) (by kernel_rfl) ?_
  refine wp_seq ?_
  refine lwp_list ?_
  refine ls_move (x := x1) (by kernel_rfl) (by kernel_rfl) ?_
  refine ls_p (d := some 21) (by kernel_rfl) (by kernel_rfl) (p_shr (by kernel_rfl) (by kernel_rfl) H) (fun x21 H => ?_)
  refine ls_assign (x := x21) (by kernel_rfl) (by kernel_rfl) ?_
  refine ls_nil ?_
  refine then_normal ?_
  refine fr_eq (b := ⟨#[x0, x1, undef, undef, (.int .u64 0), (.int .u64 0), x15, x17, x19, x21, undef, undef, undef, undef, x0, x15, x0, x17, x1, x19, x1, x21, undef, undef, undef, undef, undef, undef, undef, undef, undef, undef, undef, undef, undef, undef, undef, undef, undef, undef, undef, undef, undef, undef, undef, undef, undef, undef, undef, undef, undef], []⟩) (by kernel_rfl) ?_
  refine wp_seq ?_
  refine lwp_list ?_
  refine ls_move (x := x15) (by kernel_rfl) (by kernel_rfl) ?_
  refine ls_move (x := x19) (by kernel_rfl) (by kernel_rfl) ?_
  refine ls_p (d := some 24) (by kernel_rfl) (by kernel_rfl) (p_mul (by kernel_rfl) (by kernel_rfl) H) (fun x24 H => ?_)
  refine ls_assign (x := x24) (by kernel_rfl) (by kernel_rfl) ?_
  refine ls_nil ?_
  refine then_normal ?_
  refine fr_eq (b := ⟨#[x0, x1, undef, undef, (.int .u64 0), (.int .u64 0), x15, x17, x19, x21, x24, undef, undef, undef, x0, x15, x0, x17, x1, x19, x1, x21, x15, x19, x24, undef, undef, undef, undef, undef, undef, undef, undef, undef, undef, undef, undef, undef, undef, undef, undef, undef, undef, undef, undef, undef, undef, undef, undef, undef, undef], []⟩) (by kernel_rfl) ?_
  refine wp_seq ?_
  refine lwp_list ?_
  refine ls_move (x := x17) (by kernel_rfl) (by kernel_rfl) ?_
  refine ls_move (x := x19) (by kernel_rfl) (by kernel_rfl) ?_
  refine ls_p (d := some 27) (by kernel_rfl) (by kernel_rfl) (p_mul (by kernel_rfl) (by kernel_rfl) H) (fun x27 H => ?_)
  refine ls_move (x := x24) (by kernel_rfl) (by kernel_rfl) ?_
  refine ls_p (d := some 29) (by kernel_rfl) (by kernel_rfl) (p_shr (by kernel_rfl) (by kernel_rfl) H) (fun x29 H => ?_)
  refine ls_p (d := some 30) (by kernel_rfl) (by kernel_rfl) (p_add (by kernel_rfl) (by kernel_rfl) H) (fun x30 H => ?_)
  refine ls_fr (b := ⟨#[x0, x1, undef, undef, (.int .u64 0), (.int .u64 0), x15, x17, x19, x21, x24, undef, undef, undef, x0, x15, x0, x17, x1, x19, x1, x21, x15, x19, x24, x17, x19, x27, x24, x29, x30, undef, undef, undef, undef, undef, undef, undef, undef, undef, undef, undef, undef, undef, undef, undef, undef, undef, undef, undef, undef], []⟩) (by kernel_rfl) ?_
  refine ls_assign (x := x30) (by kernel_rfl) (by kernel_rfl) ?_
  refine ls_nil ?_
  refine then_normal ?_
  refine fr_eq (b := ⟨#[x0, x1, undef, undef, (.int .u64 0), (.int .u64 0), x15, x17, x19, x21, x24, x30, undef, undef, x0, x15, x0, x17, x1, x19, x1, x21, x15, x19, x24, x17, x19, x27, x24, x29, x30, undef, undef, undef, undef, undef, undef, undef, undef, undef, undef, undef, undef, undef, undef, undef, undef, undef, undef, undef, undef], []⟩) (by kernel_rfl) ?_
  refine wp_seq ?_
  refine lwp_list ?_
  refine ls_move (x := x30) (by kernel_rfl) (by kernel_rfl) ?_
  refine ls_p (d := some 32) (by kernel_rfl) (by kernel_rfl) (p_bits (by decide) (by kernel_rfl) (by kernel_rfl) H) (fun x32 H => ?_)
  refine ls_assign (x := x32) (by kernel_rfl) (by kernel_rfl) ?_
  refine ls_nil ?_
  refine then_normal ?_
  refine fr_eq (b := ⟨#[x0, x1, undef, undef, (.int .u64 0), (.int .u64 0), x15, x17, x19, x21, x24, x30, x32, undef, x0, x15, x0, x17, x1, x19, x1, x21, x15, x19, x24, x17, x19, x27, x24, x29, x30, x30, x32, undef, undef, undef, undef, undef, undef, undef, undef, undef, undef, undef, undef, undef, undef, undef, undef, undef, undef], []⟩) (by kernel_rfl) ?_
  refine wp_seq ?_
  refine lwp_list ?_
  refine ls_move (x := x30) (by kernel_rfl) (by kernel_rfl) ?_
  refine ls_p (d := some 34) (by kernel_rfl) (by kernel_rfl) (p_shr (by kernel_rfl) (by kernel_rfl) H) (fun x34 H => ?_)
  refine ls_assign (x := x34) (by kernel_rfl) (by kernel_rfl) ?_
  refine ls_nil ?_
  refine then_normal ?_
  refine fr_eq (b := ⟨#[x0, x1, undef, undef, (.int .u64 0), (.int .u64 0), x15, x17, x19, x21, x24, x30, x32, x34, x0, x15, x0, x17, x1, x19, x1, x21, x15, x19, x24, x17, x19, x27, x24, x29, x30, x30, x32, x30, x34, undef, undef, undef, undef, undef, undef, undef, undef, undef, undef, undef, undef, undef, undef, undef, undef], []⟩) (by kernel_rfl) ?_
  refine wp_seq ?_
  refine lwp_list ?_
  refine ls_move (x := x32) (by kernel_rfl) (by kernel_rfl) ?_
  refine ls_move (x := x15) (by kernel_rfl) (by kernel_rfl) ?_
  refine ls_move (x := x21) (by kernel_rfl) (by kernel_rfl) ?_
  refine ls_p (d := some 38) (by kernel_rfl) (by kernel_rfl) (p_mul (by kernel_rfl) (by kernel_rfl) H) (fun x38 H => ?_)
  refine ls_p (d := some 39) (by kernel_rfl) (by kernel_rfl) (p_add (by kernel_rfl) (by kernel_rfl) H) (fun x39 H => ?_)
  refine ls_assign (x := x39) (by kernel_rfl) (by kernel_rfl) ?_
  refine ls_nil ?_
  refine then_normal ?_
  refine fr_eq (b := ⟨#[x0, x1, undef, undef, (.int .u64 0), (.int .u64 0), x15, x17, x19, x21, x24, x30, x39, x34, x0, x15, x0, x17, x1, x19, x1, x21, x15, x19, x24, x17, x19, x27, x24, x29, x30, x30, x32, x30, x34, x32, x15, x21, x38, x39, undef, undef, undef, undef, undef, undef, undef, undef, undef, undef, undef], []⟩) (by kernel_rfl) ?_
  refine wp_seq ?_
  refine lwp_list ?_
  refine ls_move (x := x17) (by kernel_rfl) (by kernel_rfl) ?_
  refine ls_move (x := x21) (by kernel_rfl) (by kernel_rfl) ?_
  refine ls_p (d := some 42) (by kernel_rfl) (by kernel_rfl) (p_mul (by kernel_rfl) (by kernel_rfl) H) (fun x42 H => ?_)
  refine ls_move (x := x34) (by kernel_rfl) (by kernel_rfl) ?_
  refine ls_p (d := some 44) (by kernel_rfl) (by kernel_rfl) (p_add (by kernel_rfl) (by kernel_rfl) H) (fun x44 H => ?_)
  refine ls_move (x := x39) (by kernel_rfl) (by kernel_rfl) ?_
  refine ls_fr (b := ⟨#[x0, x1, undef, undef, (.int .u64 0), (.int .u64 0), x15, x17, x19, x21, x24, x30, x39, x34, x0, x15, x0, x17, x1, x19, x1, x21, x15, x19, x24, x17, x19, x27, x24, x29, x30, x30, x32, x30, x34, x32, x15, x21, x38, x39, x17, x21, x42, x34, x44, x39, undef, undef, undef, undef, undef], []⟩) (by kernel_rfl) ?_
  refine ls_p (d := some 46) (by kernel_rfl) (by kernel_rfl) (p_shr (by kernel_rfl) (by kernel_rfl) H) (fun x46 H => ?_)
  refine ls_p (d := some 47) (by kernel_rfl) (by kernel_rfl) (p_add (by kernel_rfl) (by kernel_rfl) H) (fun x47 H => ?_)
  refine ls_assign (x := x47) (by kernel_rfl) (by kernel_rfl) ?_
  refine ls_nil ?_
  refine then_normal ?_
  refine fr_eq (b := ⟨#[x0, x1, undef, undef, x47, (.int .u64 0), x15, x17, x19, x21, x24, x30, x39, x34, x0, x15, x0, x17, x1, x19, x1, x21, x15, x19, x24, x17, x19, x27, x24, x29, x30, x30, x32, x30, x34, x32, x15, x21, x38, x39, x17, x21, x42, x34, x44, x39, x46, x47, undef, undef, undef], []⟩) (by kernel_rfl) ?_
  refine wp_seq ?_
  refine lwp_list ?_
  refine ls_move (x := x0) (by kernel_rfl) (by kernel_rfl) ?_
  refine ls_move (x := x1) (by kernel_rfl) (by kernel_rfl) ?_
  refine ls_p (d := some 50) (by kernel_rfl) (by kernel_rfl) (p_mul (by kernel_rfl) (by kernel_rfl) H) (fun x50 H => ?_)
  refine ls_assign (x := x50) (by kernel_rfl) (by kernel_rfl) ?_
  refine ls_nil ?_
  refine then_normal ?_
  refine fr_eq (b := ⟨#[x0, x1, undef, undef, x47, x50, x15, x17, x19, x21, x24, x30, x39, x34, x0, x15, x0, x17, x1, x19, x1, x21, x15, x19, x24, x17, x19, x27, x24, x29, x30, x30, x32, x30, x34, x32, x15, x21, x38, x39, x17, x21, x42, x34, x44, x39, x46, x47, x0, x1, x50], []⟩) (by kernel_rfl) ?_
  refine wp_ret ?_
  exact end2 (Try.results92) (by kernel_rfl) (by kernel_rfl) (by kernel_rfl) HA H _ (.inr rfl)

end Go.Proofs.Ytlcklnbgknhhkaa

end

section
/- The shallow reading of one function, and that the function does it. Written by a program. -/
set_option linter.unusedVariables false
namespace Go.Proofs.Ytlcklnbgknhhkaa
open Go Go.HW

def bytes_Repeat_l4 (R : Value → Heap → Prop) (x35 x8 x57 : Value) (next : Value → Heap → Prop) (x10 : Value) (h_8 : Heap) : Prop :=
  sLt x10 x35 fun x63 =>
  sIf x63 (sMin x10 x8 fun x66 =>
  sSl x57 (some x10) none 1 fun x70 =>
  sSl x57 none (some x66) 1 fun x73 =>
  sCopy h_8 x70 x73 1 fun x74 h_9 => 
  sAdd .i64 x10 x74 fun x75 =>
  next x75 h_9) (R x57 h_8)
def bytes_Repeat_j3 (R : Value → Heap → Prop) (x0 x35 x8 : Value) (h_5 : Heap) : Prop :=
  sMkNZ h_5 x35 5 fun x54 h_6 => 
  sSl3 x54 none x35 x35 1 fun x57 =>
  sCopy h_6 x57 x0 1 fun x60 h_7 => 
  sLoop (S := Value) (fun nxt s h => bytes_Repeat_l4 R x35 x8 x57 (fun x10' h => nxt x10' h) s h) x60 h_7
def bytes_Repeat_j2 (R : Value → Heap → Prop) (x0 x26 : Value) (h_3 : Heap) : Prop :=
  sConv .i64 x26 fun x35 =>
  sLen x0 fun x37 =>
  sEq x37 (.int .i64 0) fun x38 =>
  sIf x38 (sSlit h_3 #[] [] 5 0 fun x39 h_4 => 
  R x39 h_4) (sGt x35 (.int .i64 8192) fun x42 =>
  sIf x42 (sLen x0 fun x44 =>
  sQuo .i64 (.int .i64 8192) x44 fun x45 =>
  sLen x0 fun x47 =>
  sMul .i64 x45 x47 fun x48 =>
  sEq x48 (.int .i64 0) fun x50 =>
  sIf x50 (sLen x0 fun x52 =>
  bytes_Repeat_j3 R x0 x35 x52 h_3) (bytes_Repeat_j3 R x0 x35 x48 h_3)) (bytes_Repeat_j3 R x0 x35 x35 h_3))
def bytes_Repeat_j1 (R : Value → Heap → Prop) (x0 x1 : Value) (h_1 : Heap) : Prop :=
  sLen x0 fun x20 =>
  sConv .u64 x20 fun x21 =>
  sConv .u64 x1 fun x23 =>
  math_bits_Mul_c x21 x23 h_1 fun x24 h_2 => 
  sTup x24 0 fun x25 =>
  sTup x24 1 fun x26 =>
  sGt x25 (.int .u64 0) fun x28 =>
  sOr x28 (fun k =>
  sGt x26 (.int .u64 9223372036854775807) fun x31 =>
  k x31) fun x32 =>
  sIf x32 (False) (bytes_Repeat_j2 R x0 x26 h_2)
def bytes_Repeat_S (x0 x1 : Value) (h : Heap) (R : Value → Heap → Prop) : Prop :=
  sEq x1 (.int .i64 0) fun x13 =>
  sIf x13 (sSlit h #[] [] 5 0 fun x14 h => 
  R x14 h) (sLt x1 (.int .i64 0) fun x16 =>
  sIf x16 (False) (bytes_Repeat_j1 R x0 x1 h))
set_option maxRecDepth 100000 in
theorem bytes_Repeat_runs {x0 x1 : Value} {h : Heap} {R : Value → Heap → Prop} (H : bytes_Repeat_S x0 x1 h R) : bytes_Repeat_c x0 x1 h R := by
  unfold bytes_Repeat_S at H
  refine runs_of (b := ⟨([x0, x1, undef, undef, undef, undef, undef, undef, undef, undef, undef, undef, undef, undef, undef, undef, undef, undef, undef, undef, undef, undef, undef, undef, undef, undef, undef, undef, undef, undef, undef, undef, undef, undef, undef, undef, undef, undef, undef, undef, undef, undef, undef, undef, undef, undef, undef, undef, undef, undef] ++ [undef, undef, undef, undef, undef, undef, undef, undef, undef, undef, undef, undef, undef, undef, undef, undef, undef, undef, undef, undef, undef, undef, undef, undef, undef, undef, undef]).toArray, []⟩) Try.call88 Try.func88 rfl (by kernel_rfl) (fun w0 HA => ?_)
  refine wp_seq ?_
  refine lwp_list ?_
  refine ls_assign (x := (.slice none 0 0)) (by kernel_rfl) (by kernel_rfl) ?_
  refine ls_nil ?_
  refine then_normal ?_
  refine fr_eq (b := ⟨([x0, x1, undef, undef, (.slice none 0 0), undef, undef, undef, undef, undef, undef, undef, undef, undef, undef, undef, undef, undef, undef, undef, undef, undef, undef, undef, undef, undef, undef, undef, undef, undef, undef, undef, undef, undef, undef, undef, undef, undef, undef, undef, undef, undef, undef, undef, undef, undef, undef, undef, undef, undef] ++ [undef, undef, undef, undef, undef, undef, undef, undef, undef, undef, undef, undef, undef, undef, undef, undef, undef, undef, undef, undef, undef, undef, undef, undef, undef, undef, undef]).toArray, []⟩) (by kernel_rfl) ?_
  refine wp_seq ?_
  refine wp_seq ?_
  refine lwp_list ?_
  refine ls_move (x := x1) (by kernel_rfl) (by kernel_rfl) ?_
  refine ls_p (d := some 13) (by kernel_rfl) (by kernel_rfl) (p_sEq (by kernel_rfl) (by kernel_rfl) H) (fun x13 H => ?_)
  refine ls_nil ?_
  refine then_normal ?_
  refine fr_eq (b := ⟨([x0, x1, undef, undef, (.slice none 0 0), undef, undef, undef, undef, undef, undef, undef, x1, x13, undef, undef, undef, undef, undef, undef, undef, undef, undef, undef, undef, undef, undef, undef, undef, undef, undef, undef, undef, undef, undef, undef, undef, undef, undef, undef, undef, undef, undef, undef, undef, undef, undef, undef, undef, undef] ++ [undef, undef, undef, undef, undef, undef, undef, undef, undef, undef, undef, undef, undef, undef, undef, undef, undef, undef, undef, undef, undef, undef, undef, undef, undef, undef, undef]).toArray, []⟩) (by kernel_rfl) ?_
  refine wp_if rfl H (fun H => ?_) (fun H => ?_)
  · refine wp_seq ?_
    refine lwp_list ?_
    refine ls_d (d := some 14) (by kernel_rfl) (by kernel_rfl) HA (d_slit (zc := #[]) Try.underlying30 Try.sizeOf5 (by decide) (.inl ⟨(by kernel_rfl), (by kernel_rfl)⟩) (by kernel_rfl) (by kernel_rfl) H) (fun x14 h w H HA => ?_)
    refine ls_assign (x := x14) (by kernel_rfl) (by kernel_rfl) ?_
    refine ls_nil ?_
    refine then_normal ?_
    refine fr_eq (b := ⟨([x0, x1, undef, undef, x14, undef, undef, undef, undef, undef, undef, undef, x1, x13, x14, undef, undef, undef, undef, undef, undef, undef, undef, undef, undef, undef, undef, undef, undef, undef, undef, undef, undef, undef, undef, undef, undef, undef, undef, undef, undef, undef, undef, undef, undef, undef, undef, undef, undef, undef] ++ [undef, undef, undef, undef, undef, undef, undef, undef, undef, undef, undef, undef, undef, undef, undef, undef, undef, undef, undef, undef, undef, undef, undef, undef, undef, undef, undef]).toArray, []⟩) (by kernel_rfl) ?_
    refine wp_ret ?_
    refine then_ret ?_
    exact end1 (Try.results88) (by kernel_rfl) (by kernel_rfl) HA H _ (.inr rfl)
  · refine wp_skip ?_
    refine then_normal ?_
    refine fr_eq (b := ⟨([x0, x1, undef, undef, (.slice none 0 0), undef, undef, undef, undef, undef, undef, undef, x1, x13, undef, undef, undef, undef, undef, undef, undef, undef, undef, undef, undef, undef, undef, undef, undef, undef, undef, undef, undef, undef, undef, undef, undef, undef, undef, undef, undef, undef, undef, undef, undef, undef, undef, undef, undef, undef] ++ [undef, undef, undef, undef, undef, undef, undef, undef, undef, undef, undef, undef, undef, undef, undef, undef, undef, undef, undef, undef, undef, undef, undef, undef, undef, undef, undef]).toArray, []⟩) (by kernel_rfl) ?_
    refine wp_seq ?_
    refine wp_seq ?_
    refine lwp_list ?_
    refine ls_move (x := x1) (by kernel_rfl) (by kernel_rfl) ?_
    refine ls_p (d := some 16) (by kernel_rfl) (by kernel_rfl) (p_sLt (by kernel_rfl) (by kernel_rfl) H) (fun x16 H => ?_)
    refine ls_nil ?_
    refine then_normal ?_
    refine fr_eq (b := ⟨([x0, x1, undef, undef, (.slice none 0 0), undef, undef, undef, undef, undef, undef, undef, x1, x13, undef, x1, x16, undef, undef, undef, undef, undef, undef, undef, undef, undef, undef, undef, undef, undef, undef, undef, undef, undef, undef, undef, undef, undef, undef, undef, undef, undef, undef, undef, undef, undef, undef, undef, undef, undef] ++ [undef, undef, undef, undef, undef, undef, undef, undef, undef, undef, undef, undef, undef, undef, undef, undef, undef, undef, undef, undef, undef, undef, undef, undef, undef, undef, undef]).toArray, []⟩) (by kernel_rfl) ?_
    refine wp_join (fun a w => ∃ (D : Nat → Value) (h_1 : Heap), a = ⟨([x0, x1, undef, undef, (.slice none 0 0), undef, undef, undef, undef, undef, undef, undef, x1, x13, undef, x1, x16, (D 0), undef, undef, undef, undef, undef, undef, undef, undef, undef, undef, undef, undef, undef, undef, undef, undef, undef, undef, undef, undef, undef, undef, undef, undef, undef, undef, undef, undef, undef, undef, undef, undef] ++ [undef, undef, undef, undef, undef, undef, undef, undef, undef, undef, undef, undef, undef, undef, undef, undef, undef, undef, undef, undef, undef, undef, undef, undef, undef, undef, undef]).toArray, []⟩ ∧ At w0 w h_1 ∧ bytes_Repeat_j1 R x0 x1 h_1) ?_ ?_
    · refine wp_if rfl H (fun H => ?_) (fun H => ?_)
      · exact H.elim
      · refine wp_skip ?_
        exact ⟨(fun i => ([undef]).getD i undef), h, by kernel_rfl, HA, H⟩
    · rintro _ w_1 ⟨D, h_1, rfl, HA_1, H⟩
      unfold bytes_Repeat_j1 at H
      refine then_normal ?_
      refine fr_eq (b := ⟨([x0, x1, undef, undef, (.slice none 0 0), undef, undef, undef, undef, undef, undef, undef, x1, x13, undef, x1, x16, (D 0), undef, undef, undef, undef, undef, undef, undef, undef, undef, undef, undef, undef, undef, undef, undef, undef, undef, undef, undef, undef, undef, undef, undef, undef, undef, undef, undef, undef, undef, undef, undef, undef] ++ [undef, undef, undef, undef, undef, undef, undef, undef, undef, undef, undef, undef, undef, undef, undef, undef, undef, undef, undef, undef, undef, undef, undef, undef, undef, undef, undef]).toArray, []⟩) (by kernel_rfl) ?_
      refine wp_seq ?_
      refine lwp_list ?_
      refine ls_move (x := x0) (by kernel_rfl) (by kernel_rfl) ?_
      refine ls_p (d := some 20) (by kernel_rfl) (by kernel_rfl) (p_len Try.underlying30 (by kernel_rfl) H) (fun x20 H => ?_)
      refine ls_p (d := some 21) (by kernel_rfl) (by kernel_rfl) (p_conv Try.underlying3 Try.underlying96 (by kernel_rfl) H) (fun x21 H => ?_)
      refine ls_move (x := x1) (by kernel_rfl) (by kernel_rfl) ?_
      refine ls_p (d := some 23) (by kernel_rfl) (by kernel_rfl) (p_conv Try.underlying3 Try.underlying96 (by kernel_rfl) H) (fun x23 H => ?_)
      refine ls_d (d := some 24) (by kernel_rfl) (by kernel_rfl) HA_1 (d_call (by kernel_rfl) (by kernel_rfl) H) (fun x24 h_2 w_2 H HA_2 => ?_)
      refine ls_fr (b := ⟨([x0, x1, undef, undef, (.slice none 0 0), undef, undef, undef, undef, undef, undef, undef, x1, x13, undef, x1, x16, (D 0), undef, x0, x20, x21, x1, x23, x24, undef, undef, undef, undef, undef, undef, undef, undef, undef, undef, undef, undef, undef, undef, undef, undef, undef, undef, undef, undef, undef, undef, undef, undef, undef] ++ [undef, undef, undef, undef, undef, undef, undef, undef, undef, undef, undef, undef, undef, undef, undef, undef, undef, undef, undef, undef, undef, undef, undef, undef, undef, undef, undef]).toArray, []⟩) (by kernel_rfl) ?_
      refine ls_move (x := x24) (by kernel_rfl) (by kernel_rfl) ?_
      refine ls_p (d := some 25) (by kernel_rfl) (by kernel_rfl) (p_tup (by kernel_rfl) H) (fun x25 H => ?_)
      refine ls_p (d := some 26) (by kernel_rfl) (by kernel_rfl) (p_tup (by kernel_rfl) H) (fun x26 H => ?_)
      refine ls_assign (x := x25) (by kernel_rfl) (by kernel_rfl) ?_
      refine ls_assign (x := x26) (by kernel_rfl) (by kernel_rfl) ?_
      refine ls_nil ?_
      refine then_normal ?_
      refine fr_eq (b := ⟨([x0, x1, undef, undef, (.slice none 0 0), x25, x26, undef, undef, undef, undef, undef, x1, x13, undef, x1, x16, (D 0), x24, x0, x20, x21, x1, x23, x24, x25, x26, undef, undef, undef, undef, undef, undef, undef, undef, undef, undef, undef, undef, undef, undef, undef, undef, undef, undef, undef, undef, undef, undef, undef] ++ [undef, undef, undef, undef, undef, undef, undef, undef, undef, undef, undef, undef, undef, undef, undef, undef, undef, undef, undef, undef, undef, undef, undef, undef, undef, undef, undef]).toArray, []⟩) (by kernel_rfl) ?_
      refine wp_seq ?_
      refine wp_seq ?_
      refine lwp_list ?_
      refine ls_move (x := x25) (by kernel_rfl) (by kernel_rfl) ?_
      refine ls_p (d := some 28) (by kernel_rfl) (by kernel_rfl) (p_sGt (by kernel_rfl) (by kernel_rfl) H) (fun x28 H => ?_)
      refine ls_move (x := x28) (by kernel_rfl) (by kernel_rfl) ?_
      refine ls_or [(), (), ()] (fun K a w => ∃ (D_1 : Nat → Value) (x32 : Value), a = ⟨([x0, x1, undef, undef, (.slice none 0 0), x25, x26, undef, undef, undef, undef, undef, x1, x13, undef, x1, x16, (D 0), x24, x0, x20, x21, x1, x23, x24, x25, x26, x25, x28, x28, (D_1 0), (D_1 1), x32, undef, undef, undef, undef, undef, undef, undef, undef, undef, undef, undef, undef, undef, undef, undef, undef, undef] ++ [undef, undef, undef, undef, undef, undef, undef, undef, undef, undef, undef, undef, undef, undef, undef, undef, undef, undef, undef, undef, undef, undef, undef, undef, undef, undef, undef]).toArray, []⟩ ∧ At w0 w h_2 ∧ K x32) H (fun hb H => ?_) (fun hb H => ?_) ?_
      · refine ls_move (x := x26) (by rw [hb]; kernel_rfl) (by kernel_rfl) ?_
        refine ls_p (d := some 31) (by kernel_rfl) (by rw [hb]; kernel_rfl) (p_sGt (by kernel_rfl) (by kernel_rfl) H) (fun x31 H => ?_)
        refine ls_pick_f (y := x31) (by kernel_rfl) (by rw [hb]; kernel_rfl) (by kernel_rfl) ?_
        refine ls_nil ?_
        refine then_normal ?_
        exact ⟨(fun i => ([x26, x31]).getD i undef), x31, by kernel_rfl, HA_2, H⟩
      · refine ls_skip (d := some 30) (by kernel_rfl) (by rw [hb]; kernel_rfl) ?_
        refine ls_skip (d := some 31) (by kernel_rfl) (by rw [hb]; kernel_rfl) ?_
        refine ls_pick_t (x := (.bool true)) (by kernel_rfl) (by rw [hb]; kernel_rfl) (by kernel_rfl) ?_
        refine ls_nil ?_
        refine then_normal ?_
        exact ⟨(fun i => ([undef, undef]).getD i undef), (.bool true), by kernel_rfl, HA_2, H⟩
      · rintro _ w_3 ⟨D_1, x32, rfl, HA_3, H⟩
        refine ls_nil ?_
        refine then_normal ?_
        refine fr_eq (b := ⟨([x0, x1, undef, undef, (.slice none 0 0), x25, x26, undef, undef, undef, undef, undef, x1, x13, undef, x1, x16, (D 0), x24, x0, x20, x21, x1, x23, x24, x25, x26, x25, x28, x28, (D_1 0), (D_1 1), x32, undef, undef, undef, undef, undef, undef, undef, undef, undef, undef, undef, undef, undef, undef, undef, undef, undef] ++ [undef, undef, undef, undef, undef, undef, undef, undef, undef, undef, undef, undef, undef, undef, undef, undef, undef, undef, undef, undef, undef, undef, undef, undef, undef, undef, undef]).toArray, []⟩) (by kernel_rfl) ?_
        refine wp_join (fun a w => ∃ (D_2 : Nat → Value) (h_3 : Heap), a = ⟨([x0, x1, undef, undef, (.slice none 0 0), x25, x26, undef, undef, undef, undef, undef, x1, x13, undef, x1, x16, (D 0), x24, x0, x20, x21, x1, x23, x24, x25, x26, x25, x28, x28, (D_1 0), (D_1 1), x32, (D_2 0), undef, undef, undef, undef, undef, undef, undef, undef, undef, undef, undef, undef, undef, undef, undef, undef] ++ [undef, undef, undef, undef, undef, undef, undef, undef, undef, undef, undef, undef, undef, undef, undef, undef, undef, undef, undef, undef, undef, undef, undef, undef, undef, undef, undef]).toArray, []⟩ ∧ At w0 w h_3 ∧ bytes_Repeat_j2 R x0 x26 h_3) ?_ ?_
        · refine wp_if rfl H (fun H => ?_) (fun H => ?_)
          · exact H.elim
          · refine wp_skip ?_
            exact ⟨(fun i => ([undef]).getD i undef), h_2, by kernel_rfl, HA_3, H⟩
        · rintro _ w_4 ⟨D_2, h_3, rfl, HA_4, H⟩
          unfold bytes_Repeat_j2 at H
          refine then_normal ?_
          refine fr_eq (b := ⟨([x0, x1, undef, undef, (.slice none 0 0), x25, x26, undef, undef, undef, undef, undef, x1, x13, undef, x1, x16, (D 0), x24, x0, x20, x21, x1, x23, x24, x25, x26, x25, x28, x28, (D_1 0), (D_1 1), x32, (D_2 0), undef, undef, undef, undef, undef, undef, undef, undef, undef, undef, undef, undef, undef, undef, undef, undef] ++ [undef, undef, undef, undef, undef, undef, undef, undef, undef, undef, undef, undef, undef, undef, undef, undef, undef, undef, undef, undef, undef, undef, undef, undef, undef, undef, undef]).toArray, []⟩) (by kernel_rfl) ?_
          refine wp_seq ?_
          refine lwp_list ?_
          refine ls_move (x := x26) (by kernel_rfl) (by kernel_rfl) ?_
          refine ls_p (d := some 35) (by kernel_rfl) (by kernel_rfl) (p_conv Try.underlying96 Try.underlying3 (by kernel_rfl) H) (fun x35 H => ?_)
          refine ls_assign (x := x35) (by kernel_rfl) (by kernel_rfl) ?_
          refine ls_nil ?_
          refine then_normal ?_
          refine fr_eq (b := ⟨([x0, x1, undef, undef, (.slice none 0 0), x25, x26, x35, undef, undef, undef, undef, x1, x13, undef, x1, x16, (D 0), x24, x0, x20, x21, x1, x23, x24, x25, x26, x25, x28, x28, (D_1 0), (D_1 1), x32, (D_2 0), x26, x35, undef, undef, undef, undef, undef, undef, undef, undef, undef, undef, undef, undef, undef, undef] ++ [undef, undef, undef, undef, undef, undef, undef, undef, undef, undef, undef, undef, undef, undef, undef, undef, undef, undef, undef, undef, undef, undef, undef, undef, undef, undef, undef]).toArray, []⟩) (by kernel_rfl) ?_
          refine wp_seq ?_
          refine wp_seq ?_
          refine lwp_list ?_
          refine ls_move (x := x0) (by kernel_rfl) (by kernel_rfl) ?_
          refine ls_p (d := some 37) (by kernel_rfl) (by kernel_rfl) (p_len Try.underlying30 (by kernel_rfl) H) (fun x37 H => ?_)
          refine ls_p (d := some 38) (by kernel_rfl) (by kernel_rfl) (p_sEq (by kernel_rfl) (by kernel_rfl) H) (fun x38 H => ?_)
          refine ls_nil ?_
          refine then_normal ?_
          refine fr_eq (b := ⟨([x0, x1, undef, undef, (.slice none 0 0), x25, x26, x35, undef, undef, undef, undef, x1, x13, undef, x1, x16, (D 0), x24, x0, x20, x21, x1, x23, x24, x25, x26, x25, x28, x28, (D_1 0), (D_1 1), x32, (D_2 0), x26, x35, x0, x37, x38, undef, undef, undef, undef, undef, undef, undef, undef, undef, undef, undef] ++ [undef, undef, undef, undef, undef, undef, undef, undef, undef, undef, undef, undef, undef, undef, undef, undef, undef, undef, undef, undef, undef, undef, undef, undef, undef, undef, undef]).toArray, []⟩) (by kernel_rfl) ?_
          refine wp_if rfl H (fun H => ?_) (fun H => ?_)
          · refine wp_seq ?_
            refine lwp_list ?_
            refine ls_d (d := some 39) (by kernel_rfl) (by kernel_rfl) HA_4 (d_slit (zc := #[]) Try.underlying30 Try.sizeOf5 (by decide) (.inl ⟨(by kernel_rfl), (by kernel_rfl)⟩) (by kernel_rfl) (by kernel_rfl) H) (fun x39 h_4 w_5 H HA_5 => ?_)
            refine ls_assign (x := x39) (by kernel_rfl) (by kernel_rfl) ?_
            refine ls_nil ?_
            refine then_normal ?_
            refine fr_eq (b := ⟨([x0, x1, undef, undef, x39, x25, x26, x35, undef, undef, undef, undef, x1, x13, undef, x1, x16, (D 0), x24, x0, x20, x21, x1, x23, x24, x25, x26, x25, x28, x28, (D_1 0), (D_1 1), x32, (D_2 0), x26, x35, x0, x37, x38, x39, undef, undef, undef, undef, undef, undef, undef, undef, undef, undef] ++ [undef, undef, undef, undef, undef, undef, undef, undef, undef, undef, undef, undef, undef, undef, undef, undef, undef, undef, undef, undef, undef, undef, undef, undef, undef, undef, undef]).toArray, []⟩) (by kernel_rfl) ?_
            refine wp_ret ?_
            refine then_ret ?_
            exact end1 (Try.results88) (by kernel_rfl) (by kernel_rfl) HA_5 H _ (.inr rfl)
          · refine wp_skip ?_
            refine then_normal ?_
            refine fr_eq (b := ⟨([x0, x1, undef, undef, (.slice none 0 0), x25, x26, x35, undef, undef, undef, undef, x1, x13, undef, x1, x16, (D 0), x24, x0, x20, x21, x1, x23, x24, x25, x26, x25, x28, x28, (D_1 0), (D_1 1), x32, (D_2 0), x26, x35, x0, x37, x38, undef, undef, undef, undef, undef, undef, undef, undef, undef, undef, undef] ++ [undef, undef, undef, undef, undef, undef, undef, undef, undef, undef, undef, undef, undef, undef, undef, undef, undef, undef, undef, undef, undef, undef, undef, undef, undef, undef, undef]).toArray, []⟩) (by kernel_rfl) ?_
            refine wp_seq ?_
            refine lwp_list ?_
            refine ls_move (x := x35) (by kernel_rfl) (by kernel_rfl) ?_
            refine ls_assign (x := x35) (by kernel_rfl) (by kernel_rfl) ?_
            refine ls_nil ?_
            refine then_normal ?_
            refine fr_eq (b := ⟨([x0, x1, undef, undef, (.slice none 0 0), x25, x26, x35, x35, undef, undef, undef, x1, x13, undef, x1, x16, (D 0), x24, x0, x20, x21, x1, x23, x24, x25, x26, x25, x28, x28, (D_1 0), (D_1 1), x32, (D_2 0), x26, x35, x0, x37, x38, undef, x35, undef, undef, undef, undef, undef, undef, undef, undef, undef] ++ [undef, undef, undef, undef, undef, undef, undef, undef, undef, undef, undef, undef, undef, undef, undef, undef, undef, undef, undef, undef, undef, undef, undef, undef, undef, undef, undef]).toArray, []⟩) (by kernel_rfl) ?_
            refine wp_seq ?_
            refine wp_seq ?_
            refine lwp_list ?_
            refine ls_move (x := x35) (by kernel_rfl) (by kernel_rfl) ?_
            refine ls_p (d := some 42) (by kernel_rfl) (by kernel_rfl) (p_sGt (by kernel_rfl) (by kernel_rfl) H) (fun x42 H => ?_)
            refine ls_nil ?_
            refine then_normal ?_
            refine fr_eq (b := ⟨([x0, x1, undef, undef, (.slice none 0 0), x25, x26, x35, x35, undef, undef, undef, x1, x13, undef, x1, x16, (D 0), x24, x0, x20, x21, x1, x23, x24, x25, x26, x25, x28, x28, (D_1 0), (D_1 1), x32, (D_2 0), x26, x35, x0, x37, x38, undef, x35, x35, x42, undef, undef, undef, undef, undef, undef, undef] ++ [undef, undef, undef, undef, undef, undef, undef, undef, undef, undef, undef, undef, undef, undef, undef, undef, undef, undef, undef, undef, undef, undef, undef, undef, undef, undef, undef]).toArray, []⟩) (by kernel_rfl) ?_
            refine wp_join (fun a w => ∃ (D_3 : Nat → Value) (x8 : Value) (h_5 : Heap), a = ⟨([x0, x1, undef, undef, (.slice none 0 0), x25, x26, x35, x8, undef, undef, undef, x1, x13, undef, x1, x16, (D 0), x24, x0, x20, x21, x1, x23, x24, x25, x26, x25, x28, x28, (D_1 0), (D_1 1), x32, (D_2 0), x26, x35, x0, x37, x38, undef, x35, x35, x42, (D_3 0), (D_3 1), (D_3 2), (D_3 3), (D_3 4), (D_3 5), (D_3 6)] ++ [(D_3 7), (D_3 8), (D_3 9), undef, undef, undef, undef, undef, undef, undef, undef, undef, undef, undef, undef, undef, undef, undef, undef, undef, undef, undef, undef, undef, undef, undef, undef]).toArray, []⟩ ∧ At w0 w h_5 ∧ bytes_Repeat_j3 R x0 x35 x8 h_5) ?_ ?_
            · refine wp_if rfl H (fun H => ?_) (fun H => ?_)
              · refine wp_seq ?_
                refine lwp_list ?_
                refine ls_move (x := x0) (by kernel_rfl) (by kernel_rfl) ?_
                refine ls_p (d := some 44) (by kernel_rfl) (by kernel_rfl) (p_len Try.underlying30 (by kernel_rfl) H) (fun x44 H => ?_)
                refine ls_p (d := some 45) (by kernel_rfl) (by kernel_rfl) (p_quo (by kernel_rfl) (by kernel_rfl) H) (fun x45 H => ?_)
                refine ls_move (x := x0) (by kernel_rfl) (by kernel_rfl) ?_
                refine ls_p (d := some 47) (by kernel_rfl) (by kernel_rfl) (p_len Try.underlying30 (by kernel_rfl) H) (fun x47 H => ?_)
                refine ls_p (d := some 48) (by kernel_rfl) (by kernel_rfl) (p_mul (by kernel_rfl) (by kernel_rfl) H) (fun x48 H => ?_)
                refine ls_fr (b := ⟨([x0, x1, undef, undef, (.slice none 0 0), x25, x26, x35, x35, undef, undef, undef, x1, x13, undef, x1, x16, (D 0), x24, x0, x20, x21, x1, x23, x24, x25, x26, x25, x28, x28, (D_1 0), (D_1 1), x32, (D_2 0), x26, x35, x0, x37, x38, undef, x35, x35, x42, x0, x44, x45, x0, x47, x48, undef] ++ [undef, undef, undef, undef, undef, undef, undef, undef, undef, undef, undef, undef, undef, undef, undef, undef, undef, undef, undef, undef, undef, undef, undef, undef, undef, undef, undef]).toArray, []⟩) (by kernel_rfl) ?_
                refine ls_assign (x := x48) (by kernel_rfl) (by kernel_rfl) ?_
                refine ls_nil ?_
                refine then_normal ?_
                refine fr_eq (b := ⟨([x0, x1, undef, undef, (.slice none 0 0), x25, x26, x35, x48, undef, undef, undef, x1, x13, undef, x1, x16, (D 0), x24, x0, x20, x21, x1, x23, x24, x25, x26, x25, x28, x28, (D_1 0), (D_1 1), x32, (D_2 0), x26, x35, x0, x37, x38, undef, x35, x35, x42, x0, x44, x45, x0, x47, x48, undef] ++ [undef, undef, undef, undef, undef, undef, undef, undef, undef, undef, undef, undef, undef, undef, undef, undef, undef, undef, undef, undef, undef, undef, undef, undef, undef, undef, undef]).toArray, []⟩) (by kernel_rfl) ?_
                refine wp_seq ?_
                refine lwp_list ?_
                refine ls_move (x := x48) (by kernel_rfl) (by kernel_rfl) ?_
                refine ls_p (d := some 50) (by kernel_rfl) (by kernel_rfl) (p_sEq (by kernel_rfl) (by kernel_rfl) H) (fun x50 H => ?_)
                refine ls_nil ?_
                refine then_normal ?_
                refine fr_eq (b := ⟨([x0, x1, undef, undef, (.slice none 0 0), x25, x26, x35, x48, undef, undef, undef, x1, x13, undef, x1, x16, (D 0), x24, x0, x20, x21, x1, x23, x24, x25, x26, x25, x28, x28, (D_1 0), (D_1 1), x32, (D_2 0), x26, x35, x0, x37, x38, undef, x35, x35, x42, x0, x44, x45, x0, x47, x48, x48] ++ [x50, undef, undef, undef, undef, undef, undef, undef, undef, undef, undef, undef, undef, undef, undef, undef, undef, undef, undef, undef, undef, undef, undef, undef, undef, undef, undef]).toArray, []⟩) (by kernel_rfl) ?_
                refine wp_if rfl H (fun H => ?_) (fun H => ?_)
                · refine lwp_list ?_
                  refine ls_move (x := x0) (by kernel_rfl) (by kernel_rfl) ?_
                  refine ls_p (d := some 52) (by kernel_rfl) (by kernel_rfl) (p_len Try.underlying30 (by kernel_rfl) H) (fun x52 H => ?_)
                  refine ls_assign (x := x52) (by kernel_rfl) (by kernel_rfl) ?_
                  refine ls_nil ?_
                  exact ⟨(fun i => ([x0, x44, x45, x0, x47, x48, x48, x50, x0, x52]).getD i undef), x52, h_3, by kernel_rfl, HA_4, H⟩
                · refine wp_skip ?_
                  exact ⟨(fun i => ([x0, x44, x45, x0, x47, x48, x48, x50, undef, undef]).getD i undef), x48, h_3, by kernel_rfl, HA_4, H⟩
              · refine wp_skip ?_
                exact ⟨(fun i => ([undef, undef, undef, undef, undef, undef, undef, undef, undef, undef]).getD i undef), x35, h_3, by kernel_rfl, HA_4, H⟩
            · rintro _ w_6 ⟨D_3, x8, h_5, rfl, HA_6, H⟩
              unfold bytes_Repeat_j3 at H
              refine then_normal ?_
              refine fr_eq (b := ⟨([x0, x1, undef, undef, (.slice none 0 0), x25, x26, x35, x8, undef, undef, undef, x1, x13, undef, x1, x16, (D 0), x24, x0, x20, x21, x1, x23, x24, x25, x26, x25, x28, x28, (D_1 0), (D_1 1), x32, (D_2 0), x26, x35, x0, x37, x38, undef, x35, x35, x42, (D_3 0), (D_3 1), (D_3 2), (D_3 3), (D_3 4), (D_3 5), (D_3 6)] ++ [(D_3 7), (D_3 8), (D_3 9), undef, undef, undef, undef, undef, undef, undef, undef, undef, undef, undef, undef, undef, undef, undef, undef, undef, undef, undef, undef, undef, undef, undef, undef]).toArray, []⟩) (by kernel_rfl) ?_
              refine wp_seq ?_
              refine lwp_list ?_
              refine ls_move (x := x35) (by kernel_rfl) (by kernel_rfl) ?_
              refine ls_d (d := some 54) (by kernel_rfl) (by kernel_rfl) HA_6 (d_mnz (ps := #[3]) (t := 30) Try.func73 (by kernel_rfl) (by kernel_rfl) (by kernel_rfl) (by kernel_rfl) Try.underlying30 rfl rfl H) (fun x54 h_6 w_7 H HA_7 => ?_)
              refine ls_move (x := x35) (by kernel_rfl) (by kernel_rfl) ?_
              refine ls_move (x := x35) (by kernel_rfl) (by kernel_rfl) ?_
              refine ls_p (d := some 57) (by kernel_rfl) (by kernel_rfl) (p_sl3 Try.underlying30 Try.sizeOf5 (by kernel_rfl) (by kernel_rfl) (by kernel_rfl) (by kernel_rfl) H) (fun x57 H => ?_)
              refine ls_assign (x := x57) (by kernel_rfl) (by kernel_rfl) ?_
              refine ls_nil ?_
              refine then_normal ?_
              refine fr_eq (b := ⟨([x0, x1, undef, undef, (.slice none 0 0), x25, x26, x35, x8, x57, undef, undef, x1, x13, undef, x1, x16, (D 0), x24, x0, x20, x21, x1, x23, x24, x25, x26, x25, x28, x28, (D_1 0), (D_1 1), x32, (D_2 0), x26, x35, x0, x37, x38, undef, x35, x35, x42, (D_3 0), (D_3 1), (D_3 2), (D_3 3), (D_3 4), (D_3 5), (D_3 6)] ++ [(D_3 7), (D_3 8), (D_3 9), x35, x54, x35, x35, x57, undef, undef, undef, undef, undef, undef, undef, undef, undef, undef, undef, undef, undef, undef, undef, undef, undef, undef, undef]).toArray, []⟩) (by kernel_rfl) ?_
              refine wp_seq ?_
              refine lwp_list ?_
              refine ls_move (x := x57) (by kernel_rfl) (by kernel_rfl) ?_
              refine ls_move (x := x0) (by kernel_rfl) (by kernel_rfl) ?_
              refine ls_d (d := some 60) (by kernel_rfl) (by kernel_rfl) HA_7 (d_copy Try.underlying30 Try.sizeOf5 (by kernel_rfl) (by kernel_rfl) H) (fun x60 h_7 w_8 H HA_8 => ?_)
              refine ls_assign (x := x60) (by kernel_rfl) (by kernel_rfl) ?_
              refine ls_nil ?_
              refine then_normal ?_
              refine fr_eq (b := ⟨([x0, x1, undef, undef, (.slice none 0 0), x25, x26, x35, x8, x57, x60, undef, x1, x13, undef, x1, x16, (D 0), x24, x0, x20, x21, x1, x23, x24, x25, x26, x25, x28, x28, (D_1 0), (D_1 1), x32, (D_2 0), x26, x35, x0, x37, x38, undef, x35, x35, x42, (D_3 0), (D_3 1), (D_3 2), (D_3 3), (D_3 4), (D_3 5), (D_3 6)] ++ [(D_3 7), (D_3 8), (D_3 9), x35, x54, x35, x35, x57, x57, x0, x60, undef, undef, undef, undef, undef, undef, undef, undef, undef, undef, undef, undef, undef, undef, undef, undef]).toArray, []⟩) (by kernel_rfl) ?_
              refine wp_seq ?_
              refine wp_block ?_
              obtain ⟨I, m, H0, HB⟩ := H
              refine wp_loop (fun a w => ∃ (D_4 : Nat → Value) (x10 : Value) (h_8 : Heap), a = ⟨([x0, x1, undef, undef, (.slice none 0 0), x25, x26, x35, x8, x57, x10, (D_4 0), x1, x13, undef, x1, x16, (D 0), x24, x0, x20, x21, x1, x23, x24, x25, x26, x25, x28, x28, (D_1 0), (D_1 1), x32, (D_2 0), x26, x35, x0, x37, x38, undef, x35, x35, x42, (D_3 0), (D_3 1), (D_3 2), (D_3 3), (D_3 4), (D_3 5), (D_3 6)] ++ [(D_3 7), (D_3 8), (D_3 9), x35, x54, x35, x35, x57, x57, x0, x60, (D_4 1), (D_4 2), (D_4 3), (D_4 4), (D_4 5), (D_4 6), (D_4 7), (D_4 8), (D_4 9), (D_4 10), (D_4 11), (D_4 12), (D_4 13), (D_4 14), (D_4 15), undef]).toArray, []⟩ ∧ At w0 w h_8 ∧ I x10 h_8) (fun a w => m (a.tmps.getD 10 undef) w.heap) ?_ ?_
              · exact ⟨(fun i => ([undef, undef, undef, undef, undef, undef, undef, undef, undef, undef, undef, undef, undef, undef, undef, undef]).getD i undef), x60, h_7, by kernel_rfl, HA_8, H0⟩
              · rintro _ w_9 ⟨D_4, x10, h_8, rfl, HA_9, HI⟩
                have H : bytes_Repeat_l4 R x35 x8 x57 (fun x10' h' => I x10' h' ∧ m x10' h' < m x10 h_8) x10 h_8 := HB x10 h_8 HI
                clear HB H0 HI
                unfold bytes_Repeat_l4 at H
                refine wp_seq ?_
                refine wp_seq ?_
                refine lwp_list ?_
                refine ls_move (x := x10) (by kernel_rfl) (by kernel_rfl) ?_
                refine ls_move (x := x35) (by kernel_rfl) (by kernel_rfl) ?_
                refine ls_p (d := some 63) (by kernel_rfl) (by kernel_rfl) (p_sLt (by kernel_rfl) (by kernel_rfl) H) (fun x63 H => ?_)
                refine ls_nil ?_
                refine then_normal ?_
                refine fr_eq (b := ⟨([x0, x1, undef, undef, (.slice none 0 0), x25, x26, x35, x8, x57, x10, (D_4 0), x1, x13, undef, x1, x16, (D 0), x24, x0, x20, x21, x1, x23, x24, x25, x26, x25, x28, x28, (D_1 0), (D_1 1), x32, (D_2 0), x26, x35, x0, x37, x38, undef, x35, x35, x42, (D_3 0), (D_3 1), (D_3 2), (D_3 3), (D_3 4), (D_3 5), (D_3 6)] ++ [(D_3 7), (D_3 8), (D_3 9), x35, x54, x35, x35, x57, x57, x0, x60, x10, x35, x63, (D_4 4), (D_4 5), (D_4 6), (D_4 7), (D_4 8), (D_4 9), (D_4 10), (D_4 11), (D_4 12), (D_4 13), (D_4 14), (D_4 15), undef]).toArray, []⟩) (by kernel_rfl) ?_
                refine wp_if rfl H (fun H => ?_) (fun H => ?_)
                · refine wp_skip ?_
                  refine then_normal ?_
                  refine fr_eq (b := ⟨([x0, x1, undef, undef, (.slice none 0 0), x25, x26, x35, x8, x57, x10, (D_4 0), x1, x13, undef, x1, x16, (D 0), x24, x0, x20, x21, x1, x23, x24, x25, x26, x25, x28, x28, (D_1 0), (D_1 1), x32, (D_2 0), x26, x35, x0, x37, x38, undef, x35, x35, x42, (D_3 0), (D_3 1), (D_3 2), (D_3 3), (D_3 4), (D_3 5), (D_3 6)] ++ [(D_3 7), (D_3 8), (D_3 9), x35, x54, x35, x35, x57, x57, x0, x60, x10, x35, x63, (D_4 4), (D_4 5), (D_4 6), (D_4 7), (D_4 8), (D_4 9), (D_4 10), (D_4 11), (D_4 12), (D_4 13), (D_4 14), (D_4 15), undef]).toArray, []⟩) (by kernel_rfl) ?_
                  refine wp_block ?_
                  refine wp_seq ?_
                  refine lwp_list ?_
                  refine ls_move (x := x10) (by kernel_rfl) (by kernel_rfl) ?_
                  refine ls_move (x := x8) (by kernel_rfl) (by kernel_rfl) ?_
                  refine ls_p (d := some 66) (by kernel_rfl) (by kernel_rfl) (p_min (by kernel_rfl) (by kernel_rfl) H) (fun x66 H => ?_)
                  refine ls_assign (x := x66) (by kernel_rfl) (by kernel_rfl) ?_
                  refine ls_nil ?_
                  refine then_normal ?_
                  refine fr_eq (b := ⟨([x0, x1, undef, undef, (.slice none 0 0), x25, x26, x35, x8, x57, x10, x66, x1, x13, undef, x1, x16, (D 0), x24, x0, x20, x21, x1, x23, x24, x25, x26, x25, x28, x28, (D_1 0), (D_1 1), x32, (D_2 0), x26, x35, x0, x37, x38, undef, x35, x35, x42, (D_3 0), (D_3 1), (D_3 2), (D_3 3), (D_3 4), (D_3 5), (D_3 6)] ++ [(D_3 7), (D_3 8), (D_3 9), x35, x54, x35, x35, x57, x57, x0, x60, x10, x35, x63, x10, x8, x66, (D_4 7), (D_4 8), (D_4 9), (D_4 10), (D_4 11), (D_4 12), (D_4 13), (D_4 14), (D_4 15), undef]).toArray, []⟩) (by kernel_rfl) ?_
                  refine lwp_mx (Nat.testBit 128) (Nat.testBit 0) (Nat.testBit 895) [0, 0, 0, 6, 0, 0, 48, 126, 255, 511] (Nat.testBit 0) (fun h' => h' = h_8) [0, 1, 2, 3, 4, 5, 6, 7, 8, 9] (by kernel_rfl) (by kernel_rfl) (by kernel_rfl) (by kernel_rfl) HA_9 rfl ?_
                  intro w_10 HA_10
                  refine lm_al (x := x10) (d := some 67) (by kernel_rfl) rfl (by kernel_rfl) (by kernel_rfl) (al_move (by kernel_rfl)) ?_
                  refine lm_al (x := x57) (d := some 68) (by kernel_rfl) rfl (by kernel_rfl) (by kernel_rfl) (al_move (by kernel_rfl)) ?_
                  refine lm_al (x := x10) (d := some 69) (by kernel_rfl) rfl (by kernel_rfl) (by kernel_rfl) (al_move (by kernel_rfl)) ?_
                  refine lm_p (d := some 70) (by kernel_rfl) rfl (by kernel_rfl) (by kernel_rfl) (p_sl Try.underlying30 Try.sizeOf5 (by kernel_rfl) (by kernel_rfl) (by kernel_rfl) H) (fun x70 H => ?_)
                  refine lm_al (x := x57) (d := some 71) (by kernel_rfl) rfl (by kernel_rfl) (by kernel_rfl) (al_move (by kernel_rfl)) ?_
                  refine lm_al (x := x66) (d := some 72) (by kernel_rfl) rfl (by kernel_rfl) (by kernel_rfl) (al_move (by kernel_rfl)) ?_
                  refine lm_fr (b := ⟨([x0, x1, undef, undef, (.slice none 0 0), x25, x26, x35, x8, x57, x10, x66, x1, x13, undef, x1, x16, (D 0), x24, x0, x20, x21, x1, x23, x24, x25, x26, x25, x28, x28, (D_1 0), (D_1 1), x32, (D_2 0), x26, x35, x0, x37, x38, undef, x35, x35, x42, (D_3 0), (D_3 1), (D_3 2), (D_3 3), (D_3 4), (D_3 5), (D_3 6)] ++ [(D_3 7), (D_3 8), (D_3 9), x35, x54, x35, x35, x57, x57, x0, x60, x10, x35, x63, x10, x8, x66, x10, x57, x10, x70, x57, x66, (D_4 13), (D_4 14), (D_4 15), undef]).toArray, []⟩) (by kernel_rfl) ?_
                  refine lm_p (d := some 73) (by kernel_rfl) rfl (by kernel_rfl) (by kernel_rfl) (p_sl Try.underlying30 Try.sizeOf5 (by kernel_rfl) (by kernel_rfl) (by kernel_rfl) H) (fun x73 H => ?_)
                  refine lm_d (d := some 74) (by kernel_rfl) rfl (by kernel_rfl) (by kernel_rfl) (by kernel_rfl) HA_10 (d_copy Try.underlying30 Try.sizeOf5 (by kernel_rfl) (by kernel_rfl) H) (fun x74 h_9 w_11 H HA_11 => ?_)
                  refine lm_p (d := some 75) (by kernel_rfl) rfl (by kernel_rfl) (by kernel_rfl) (p_add (by kernel_rfl) (by kernel_rfl) H) (fun x75 H => ?_)
                  refine lm_al (x := x75) (d := some 10) (by kernel_rfl) rfl (by kernel_rfl) (by kernel_rfl) (al_assign (by kernel_rfl)) ?_
                  refine lm_nil ?_
                  refine block_normal ?_
                  exact ⟨⟨(fun i => ([x66, x10, x35, x63, x10, x8, x66, x10, x57, x10, x70, x57, x66, x73, x74, x75]).getD i undef), x75, h_9, by kernel_rfl, HA_11, H.1⟩, loop_lt HA_11.heap HA_9.heap (by kernel_rfl) (by kernel_rfl) H.2⟩
                · refine wp_exit ?_
                  refine then_exit ?_
                  refine then_exit ?_
                  refine block_exit ?_
                  refine then_normal ?_
                  refine fr_eq (b := ⟨([x0, x1, undef, undef, (.slice none 0 0), x25, x26, x35, x8, x57, x10, (D_4 0), x1, x13, undef, x1, x16, (D 0), x24, x0, x20, x21, x1, x23, x24, x25, x26, x25, x28, x28, (D_1 0), (D_1 1), x32, (D_2 0), x26, x35, x0, x37, x38, undef, x35, x35, x42, (D_3 0), (D_3 1), (D_3 2), (D_3 3), (D_3 4), (D_3 5), (D_3 6)] ++ [(D_3 7), (D_3 8), (D_3 9), x35, x54, x35, x35, x57, x57, x0, x60, x10, x35, x63, (D_4 4), (D_4 5), (D_4 6), (D_4 7), (D_4 8), (D_4 9), (D_4 10), (D_4 11), (D_4 12), (D_4 13), (D_4 14), (D_4 15), undef]).toArray, []⟩) (by kernel_rfl) ?_
                  refine wp_seq ?_
                  refine lwp_list ?_
                  refine ls_move (x := x57) (by kernel_rfl) (by kernel_rfl) ?_
                  refine ls_assign (x := x57) (by kernel_rfl) (by kernel_rfl) ?_
                  refine ls_nil ?_
                  refine then_normal ?_
                  refine fr_eq (b := ⟨([x0, x1, undef, undef, x57, x25, x26, x35, x8, x57, x10, (D_4 0), x1, x13, undef, x1, x16, (D 0), x24, x0, x20, x21, x1, x23, x24, x25, x26, x25, x28, x28, (D_1 0), (D_1 1), x32, (D_2 0), x26, x35, x0, x37, x38, undef, x35, x35, x42, (D_3 0), (D_3 1), (D_3 2), (D_3 3), (D_3 4), (D_3 5), (D_3 6)] ++ [(D_3 7), (D_3 8), (D_3 9), x35, x54, x35, x35, x57, x57, x0, x60, x10, x35, x63, (D_4 4), (D_4 5), (D_4 6), (D_4 7), (D_4 8), (D_4 9), (D_4 10), (D_4 11), (D_4 12), (D_4 13), (D_4 14), (D_4 15), x57]).toArray, []⟩) (by kernel_rfl) ?_
                  refine wp_ret ?_
                  exact end1 (Try.results88) (by kernel_rfl) (by kernel_rfl) HA_9 H _ (.inr rfl)

end Go.Proofs.Ytlcklnbgknhhkaa

end

section
/- The shallow reading of one function, and that the function does it. Written by a program. -/
set_option linter.unusedVariables false
namespace Go.Proofs.Ytlcklnbgknhhkaa
open Go Go.HW

def opost_stop_S (x0 : Value) (h : Heap) (R : Value → Heap → Prop) : Prop :=
  sRem .i64 x0 (.int .i64 8) fun x5 =>
  sSub .i64 x0 x5 fun x6 =>
  sAdd .i64 x6 (.int .i64 8) fun x7 =>
  R x7 h
set_option maxRecDepth 100000 in
theorem opost_stop_runs {x0 : Value} {h : Heap} {R : Value → Heap → Prop} (H : opost_stop_S x0 h R) : opost_stop_c x0 h R := by
  unfold opost_stop_S at H
  refine runs_of (b := ⟨#[x0, undef, undef, undef, undef, undef, undef, undef], []⟩) Try.call89 Try.func89 rfl (by kernel_rfl) (fun w0 HA => ?_)
  refine wp_seq ?_
  refine lwp_list ?_
  refine ls_assign (x := (.int .i64 0)) (by kernel_rfl) (by kernel_rfl) ?_
  refine ls_nil ?_
  refine then_normal ?_
  refine fr_eq (b := ⟨#[x0, undef, (.int .i64 0), undef, undef, undef, undef, undef], []⟩) (by kernel_rfl) ?_
  refine wp_seq ?_
  refine lwp_list ?_
  refine ls_move (x := x0) (by kernel_rfl) (by kernel_rfl) ?_
  refine ls_move (x := x0) (by kernel_rfl) (by kernel_rfl) ?_
  refine ls_p (d := some 5) (by kernel_rfl) (by kernel_rfl) (p_rem (by kernel_rfl) (by kernel_rfl) H) (fun x5 H => ?_)
  refine ls_p (d := some 6) (by kernel_rfl) (by kernel_rfl) (p_sub (by kernel_rfl) (by kernel_rfl) H) (fun x6 H => ?_)
  refine ls_p (d := some 7) (by kernel_rfl) (by kernel_rfl) (p_add (by kernel_rfl) (by kernel_rfl) H) (fun x7 H => ?_)
  refine ls_assign (x := x7) (by kernel_rfl) (by kernel_rfl) ?_
  refine ls_nil ?_
  refine then_normal ?_
  refine fr_eq (b := ⟨#[x0, undef, x7, x0, x0, x5, x6, x7], []⟩) (by kernel_rfl) ?_
  refine wp_ret ?_
  exact end1 (Try.results89) (by kernel_rfl) (by kernel_rfl) HA H _ (.inr rfl)

end Go.Proofs.Ytlcklnbgknhhkaa

end

section
/- The shallow reading of one function, and that the function does it. Written by a program. -/
set_option linter.unusedVariables false
namespace Go.Proofs.Ytlcklnbgknhhkaa
open Go Go.HW

def opost_post_j1 (R : Value → Heap → Prop) (x1_1 x2_1 : Value) (h : Heap) : Prop :=
  sSlit h #[.int .u8 0] [(0, 1, x2_1)] 5 1 fun x86 h_1 => 
  R (.tuple #[x86, x1_1]) h_1
def opost_post_j2 (R : Value → Heap → Prop) (x0 x1 x2_2 : Value) (h_2 : Heap) : Prop :=
  sBits .and .i64 x0 (.int .i64 2) fun x64 =>
  sNe x64 (.int .i64 0) fun x65 =>
  sIf x65 (sSlit h_2 #[.int .u8 0, .int .u8 0] [(0, 1, (.int .u8 13)), (1, 1, (.int .u8 10))] 5 2 fun x66 h_3 => 
  R (.tuple #[x66, (.int .i64 0)]) h_3) (sBits .and .i64 x0 (.int .i64 16) fun x68 =>
  sNe x68 (.int .i64 0) fun x69 =>
  sIf x69 (opost_post_j1 R (.int .i64 0) x2_2 h_2) (opost_post_j1 R x1 x2_2 h_2))
def opost_post_S (x0 x1 x2 : Value) (h : Heap) (R : Value → Heap → Prop) : Prop :=
  sEq x2 (.int .u8 13) fun x10 =>
  sAnd x10 (fun k_6 =>
  sBits .and .i64 x0 (.int .i64 4) fun x13 =>
  sNe x13 (.int .i64 0) fun x14 =>
  k_6 x14) fun x15 =>
  sIf x15 (opost_post_j2 R x0 x1 (.int .u8 10) h) (sEq x2 (.int .u8 10) fun x18 =>
  sIf x18 (opost_post_j2 R x0 x1 x2 h) (sEq x2 (.int .u8 13) fun x21 =>
  sAnd x21 (fun k_5 =>
  sEq x1 (.int .i64 0) fun x24 =>
  k_5 x24) fun x25 =>
  sAnd x25 (fun k_4 =>
  sBits .and .i64 x0 (.int .i64 8) fun x28 =>
  sNe x28 (.int .i64 0) fun x29 =>
  k_4 x29) fun x30 =>
  sIf x30 (R (.tuple #[(.slice none 0 0), (.int .i64 0)]) h) (sEq x2 (.int .u8 13) fun x33 =>
  sIf x33 (opost_post_j1 R (.int .i64 0) x2 h) (sEq x2 (.int .u8 9) fun x36 =>
  sAnd x36 (fun k_3 =>
  sBits .and .i64 x0 (.int .i64 32) fun x39 =>
  sNe x39 (.int .i64 0) fun x40 =>
  k_3 x40) fun x41 =>
  sIf x41 (sSlit h #[.int .u8 0] [(0, 1, (.int .u8 32))] 5 1 fun x70 h_4 => 
  opost_stop_c x1 h_4 fun x72 h_5 => 
  sSub .i64 x72 x1 fun x74 =>
  bytes_Repeat_c x70 x74 h_5 fun x75 h_6 => 
  opost_stop_c x1 h_6 fun x77 h_7 => 
  R (.tuple #[x75, x77]) h_7) (sEq x2 (.int .u8 9) fun x44 =>
  sIf x44 (opost_stop_c x1 h fun x79 h_8 => 
  opost_post_j1 R x79 x2 h_8) (sEq x2 (.int .u8 8) fun x47 =>
  sIf x47 (sSub .i64 x1 (.int .i64 1) fun x81 =>
  sMax x81 (.int .i64 0) fun x82 =>
  opost_post_j1 R x82 x2 h) (sLt x2 (.int .u8 32) fun x50 =>
  sOr x50 (fun k_2 =>
  sEq x2 (.int .u8 127) fun x53 =>
  k_2 x53) fun x54 =>
  sOr x54 (fun k =>
  sGe x2 (.int .u8 128) fun x57 =>
  sAnd x57 (fun k_1 =>
  sLt x2 (.int .u8 192) fun x60 =>
  k_1 x60) fun x61 =>
  k x61) fun x62 =>
  sIf x62 (opost_post_j1 R x1 x2 h) (sAdd .i64 x1 (.int .i64 1) fun x84 =>
  opost_post_j1 R x84 x2 h))))))))
set_option maxHeartbeats 4000000 in
set_option maxRecDepth 100000 in
theorem opost_post_runs {x0 x1 x2 : Value} {h : Heap} {R : Value → Heap → Prop} (H : opost_post_S x0 x1 x2 h R) : opost_post_c x0 x1 x2 h R := by
  unfold opost_post_S at H
  refine runs_of (b := ⟨([x0, x1, x2, undef, undef, undef, undef, undef, undef, undef, undef, undef, undef, undef, undef, undef, undef, undef, undef, undef, undef, undef, undef, undef, undef, undef, undef, undef, undef, undef, undef, undef, undef, undef, undef, undef, undef, undef, undef, undef, undef, undef, undef, undef, undef, undef, undef, undef, undef, undef] ++ [undef, undef, undef, undef, undef, undef, undef, undef, undef, undef, undef, undef, undef, undef, undef, undef, undef, undef, undef, undef, undef, undef, undef, undef, undef, undef, undef, undef, undef, undef, undef, undef, undef, undef, undef, undef, undef, undef]).toArray, []⟩) Try.call84 Try.func84 rfl (by kernel_rfl) (fun w0 HA => ?_)
  refine wp_seq ?_
  refine lwp_list ?_
  refine ls_assign (x := (.slice none 0 0)) (by kernel_rfl) (by kernel_rfl) ?_
  refine ls_assign (x := (.int .i64 0)) (by kernel_rfl) (by kernel_rfl) ?_
  refine ls_nil ?_
  refine then_normal ?_
  refine fr_eq (b := ⟨([x0, x1, x2, undef, undef, undef, (.slice none 0 0), (.int .i64 0), undef, undef, undef, undef, undef, undef, undef, undef, undef, undef, undef, undef, undef, undef, undef, undef, undef, undef, undef, undef, undef, undef, undef, undef, undef, undef, undef, undef, undef, undef, undef, undef, undef, undef, undef, undef, undef, undef, undef, undef, undef, undef] ++ [undef, undef, undef, undef, undef, undef, undef, undef, undef, undef, undef, undef, undef, undef, undef, undef, undef, undef, undef, undef, undef, undef, undef, undef, undef, undef, undef, undef, undef, undef, undef, undef, undef, undef, undef, undef, undef, undef]).toArray, []⟩) (by kernel_rfl) ?_
  refine wp_seq ?_
  refine wp_join (fun a w => ∃ (D : Nat → Value) (x1_1 x2_1 : Value) (h : Heap), a = ⟨([x0, x1_1, x2_1, undef, undef, undef, (D 0), (D 1), (D 2), (D 3), (D 4), (D 5), (D 6), (D 7), (D 8), (D 9), (D 10), (D 11), (D 12), (D 13), (D 14), (D 15), (D 16), (D 17), (D 18), (D 19), (D 20), (D 21), (D 22), (D 23), (D 24), (D 25), (D 26), (D 27), (D 28), (D 29), (D 30), (D 31), (D 32), (D 33), (D 34), (D 35), (D 36), (D 37), (D 38), (D 39), (D 40), (D 41), (D 42), (D 43)] ++ [(D 44), (D 45), (D 46), (D 47), (D 48), (D 49), (D 50), (D 51), (D 52), (D 53), (D 54), (D 55), (D 56), (D 57), (D 58), (D 59), (D 60), (D 61), (D 62), (D 63), (D 64), (D 65), (D 66), (D 67), (D 68), (D 69), (D 70), (D 71), (D 72), (D 73), (D 74), (D 75), (D 76), (D 77), (D 78), undef, undef, undef]).toArray, []⟩ ∧ At w0 w h ∧ opost_post_j1 R x1_1 x2_1 h) ?_ ?_
  · refine wp_block ?_
    refine wp_seq ?_
    refine wp_block ?_
    refine wp_seq ?_
    refine wp_block ?_
    refine wp_seq ?_
    refine wp_block ?_
    refine wp_seq ?_
    refine wp_block ?_
    refine wp_seq ?_
    refine wp_block ?_
    refine wp_seq ?_
    refine wp_block ?_
    refine wp_seq ?_
    refine wp_block ?_
    refine wp_seq ?_
    refine wp_join (fun a w => ∃ (D_1 : Nat → Value) (x2_2 : Value) (h_2 : Heap), a = ⟨([x0, x1, x2_2, undef, undef, undef, (.slice none 0 0), (.int .i64 0), (D_1 0), (D_1 1), (D_1 2), (D_1 3), (D_1 4), (D_1 5), (D_1 6), (D_1 7), (D_1 8), (D_1 9), (D_1 10), (D_1 11), (D_1 12), (D_1 13), (D_1 14), (D_1 15), (D_1 16), (D_1 17), (D_1 18), (D_1 19), (D_1 20), (D_1 21), (D_1 22), (D_1 23), (D_1 24), (D_1 25), (D_1 26), (D_1 27), (D_1 28), (D_1 29), (D_1 30), (D_1 31), (D_1 32), (D_1 33), (D_1 34), (D_1 35), (D_1 36), (D_1 37), (D_1 38), (D_1 39), (D_1 40), (D_1 41)] ++ [(D_1 42), (D_1 43), (D_1 44), (D_1 45), (D_1 46), (D_1 47), (D_1 48), (D_1 49), (D_1 50), (D_1 51), (D_1 52), (D_1 53), (D_1 54), undef, undef, undef, undef, undef, undef, undef, undef, undef, undef, undef, undef, undef, undef, undef, undef, undef, undef, undef, undef, undef, undef, undef, undef, undef]).toArray, []⟩ ∧ At w0 w h_2 ∧ opost_post_j2 R x0 x1 x2_2 h_2) ?_ ?_
    · refine wp_block ?_
      refine wp_seq ?_
      refine wp_block ?_
      refine wp_seq ?_
      refine wp_seq ?_
      refine wp_seq ?_
      refine lwp_list ?_
      refine ls_move (x := x2) (by kernel_rfl) (by kernel_rfl) ?_
      refine ls_p (d := some 10) (by kernel_rfl) (by kernel_rfl) (p_sEq (by kernel_rfl) (by kernel_rfl) H) (fun x10 H => ?_)
      refine ls_move (x := x10) (by kernel_rfl) (by kernel_rfl) ?_
      refine ls_and [(), (), (), ()] (fun K a w => ∃ (D_2 : Nat → Value) (x15 : Value), a = ⟨([x0, x1, x2, undef, undef, undef, (.slice none 0 0), (.int .i64 0), undef, x2, x10, x10, (D_2 0), (D_2 1), (D_2 2), x15, undef, undef, undef, undef, undef, undef, undef, undef, undef, undef, undef, undef, undef, undef, undef, undef, undef, undef, undef, undef, undef, undef, undef, undef, undef, undef, undef, undef, undef, undef, undef, undef, undef, undef] ++ [undef, undef, undef, undef, undef, undef, undef, undef, undef, undef, undef, undef, undef, undef, undef, undef, undef, undef, undef, undef, undef, undef, undef, undef, undef, undef, undef, undef, undef, undef, undef, undef, undef, undef, undef, undef, undef, undef]).toArray, []⟩ ∧ At w0 w h ∧ K x15) H (fun hb_6 H => ?_) (fun hb_6 H => ?_) ?_
      · refine ls_move (x := x0) (by rw [hb_6]; kernel_rfl) (by kernel_rfl) ?_
        refine ls_p (d := some 13) (by kernel_rfl) (by rw [hb_6]; kernel_rfl) (p_bits (by decide) (by kernel_rfl) (by kernel_rfl) H) (fun x13 H => ?_)
        refine ls_p (d := some 14) (by kernel_rfl) (by rw [hb_6]; kernel_rfl) (p_sNe (by kernel_rfl) (by kernel_rfl) H) (fun x14 H => ?_)
        refine ls_fr (b := ⟨([x0, x1, x2, undef, undef, undef, (.slice none 0 0), (.int .i64 0), undef, x2, x10, x10, x0, x13, x14, undef, undef, undef, undef, undef, undef, undef, undef, undef, undef, undef, undef, undef, undef, undef, undef, undef, undef, undef, undef, undef, undef, undef, undef, undef, undef, undef, undef, undef, undef, undef, undef, undef, undef, undef] ++ [undef, undef, undef, undef, undef, undef, undef, undef, undef, undef, undef, undef, undef, undef, undef, undef, undef, undef, undef, undef, undef, undef, undef, undef, undef, undef, undef, undef, undef, undef, undef, undef, undef, undef, undef, undef, undef, undef]).toArray, []⟩) (by kernel_rfl) ?_
        refine ls_pick_t (x := x14) (by kernel_rfl) (by rw [hb_6]; kernel_rfl) (by kernel_rfl) ?_
        refine ls_nil ?_
        refine then_normal ?_
        exact ⟨(fun i => ([x0, x13, x14]).getD i undef), x14, by kernel_rfl, HA, H⟩
      · refine ls_skip (d := some 12) (by kernel_rfl) (by rw [hb_6]; kernel_rfl) ?_
        refine ls_skip (d := some 13) (by kernel_rfl) (by rw [hb_6]; kernel_rfl) ?_
        refine ls_skip (d := some 14) (by kernel_rfl) (by rw [hb_6]; kernel_rfl) ?_
        refine ls_fr (b := ⟨([x0, x1, x2, undef, undef, undef, (.slice none 0 0), (.int .i64 0), undef, x2, x10, x10, undef, undef, undef, undef, undef, undef, undef, undef, undef, undef, undef, undef, undef, undef, undef, undef, undef, undef, undef, undef, undef, undef, undef, undef, undef, undef, undef, undef, undef, undef, undef, undef, undef, undef, undef, undef, undef, undef] ++ [undef, undef, undef, undef, undef, undef, undef, undef, undef, undef, undef, undef, undef, undef, undef, undef, undef, undef, undef, undef, undef, undef, undef, undef, undef, undef, undef, undef, undef, undef, undef, undef, undef, undef, undef, undef, undef, undef]).toArray, []⟩) (by kernel_rfl) ?_
        refine ls_pick_f (y := (.bool false)) (by kernel_rfl) (by rw [hb_6]; kernel_rfl) (by kernel_rfl) ?_
        refine ls_nil ?_
        refine then_normal ?_
        exact ⟨(fun i => ([undef, undef, undef]).getD i undef), (.bool false), by kernel_rfl, HA, H⟩
      · rintro _ w_4 ⟨D_2, x15, rfl, HA_4, H⟩
        refine ls_assign (x := x15) (by kernel_rfl) (by kernel_rfl) ?_
        refine ls_nil ?_
        refine then_normal ?_
        refine fr_eq (b := ⟨([x0, x1, x2, undef, undef, undef, (.slice none 0 0), (.int .i64 0), x15, x2, x10, x10, (D_2 0), (D_2 1), (D_2 2), x15, undef, undef, undef, undef, undef, undef, undef, undef, undef, undef, undef, undef, undef, undef, undef, undef, undef, undef, undef, undef, undef, undef, undef, undef, undef, undef, undef, undef, undef, undef, undef, undef, undef, undef] ++ [undef, undef, undef, undef, undef, undef, undef, undef, undef, undef, undef, undef, undef, undef, undef, undef, undef, undef, undef, undef, undef, undef, undef, undef, undef, undef, undef, undef, undef, undef, undef, undef, undef, undef, undef, undef, undef, undef]).toArray, []⟩) (by kernel_rfl) ?_
        refine wp_if rfl H (fun H => ?_) (fun H => ?_)
        · refine wp_exit ?_
          refine then_exit ?_
          refine then_exit ?_
          refine block_exit ?_
          refine then_normal ?_
          refine fr_eq (b := ⟨([x0, x1, x2, undef, undef, undef, (.slice none 0 0), (.int .i64 0), x15, x2, x10, x10, (D_2 0), (D_2 1), (D_2 2), x15, undef, undef, undef, undef, undef, undef, undef, undef, undef, undef, undef, undef, undef, undef, undef, undef, undef, undef, undef, undef, undef, undef, undef, undef, undef, undef, undef, undef, undef, undef, undef, undef, undef, undef] ++ [undef, undef, undef, undef, undef, undef, undef, undef, undef, undef, undef, undef, undef, undef, undef, undef, undef, undef, undef, undef, undef, undef, undef, undef, undef, undef, undef, undef, undef, undef, undef, undef, undef, undef, undef, undef, undef, undef]).toArray, []⟩) (by kernel_rfl) ?_
          refine lwp_list ?_
          refine ls_assign (x := (.int .u8 10)) (by kernel_rfl) (by kernel_rfl) ?_
          refine ls_nil ?_
          refine block_normal ?_
          exact ⟨(fun i => ([x15, x2, x10, x10, (D_2 0), (D_2 1), (D_2 2), x15, undef, undef, undef, undef, undef, undef, undef, undef, undef, undef, undef, undef, undef, undef, undef, undef, undef, undef, undef, undef, undef, undef, undef, undef, undef, undef, undef, undef, undef, undef, undef, undef, undef, undef, undef, undef, undef, undef, undef, undef, undef, undef] ++ [undef, undef, undef, undef, undef]).getD i undef), (.int .u8 10), h, by kernel_rfl, HA_4, H⟩
        · refine wp_skip ?_
          refine then_normal ?_
          refine fr_eq (b := ⟨([x0, x1, x2, undef, undef, undef, (.slice none 0 0), (.int .i64 0), x15, x2, x10, x10, (D_2 0), (D_2 1), (D_2 2), x15, undef, undef, undef, undef, undef, undef, undef, undef, undef, undef, undef, undef, undef, undef, undef, undef, undef, undef, undef, undef, undef, undef, undef, undef, undef, undef, undef, undef, undef, undef, undef, undef, undef, undef] ++ [undef, undef, undef, undef, undef, undef, undef, undef, undef, undef, undef, undef, undef, undef, undef, undef, undef, undef, undef, undef, undef, undef, undef, undef, undef, undef, undef, undef, undef, undef, undef, undef, undef, undef, undef, undef, undef, undef]).toArray, []⟩) (by kernel_rfl) ?_
          refine wp_seq ?_
          refine wp_seq ?_
          refine lwp_list ?_
          refine ls_move (x := x2) (by kernel_rfl) (by kernel_rfl) ?_
          refine ls_p (d := some 18) (by kernel_rfl) (by kernel_rfl) (p_sEq (by kernel_rfl) (by kernel_rfl) H) (fun x18 H => ?_)
          refine ls_assign (x := x18) (by kernel_rfl) (by kernel_rfl) ?_
          refine ls_nil ?_
          refine then_normal ?_
          refine fr_eq (b := ⟨([x0, x1, x2, undef, undef, undef, (.slice none 0 0), (.int .i64 0), x15, x2, x10, x10, (D_2 0), (D_2 1), (D_2 2), x15, x18, x2, x18, undef, undef, undef, undef, undef, undef, undef, undef, undef, undef, undef, undef, undef, undef, undef, undef, undef, undef, undef, undef, undef, undef, undef, undef, undef, undef, undef, undef, undef, undef, undef] ++ [undef, undef, undef, undef, undef, undef, undef, undef, undef, undef, undef, undef, undef, undef, undef, undef, undef, undef, undef, undef, undef, undef, undef, undef, undef, undef, undef, undef, undef, undef, undef, undef, undef, undef, undef, undef, undef, undef]).toArray, []⟩) (by kernel_rfl) ?_
          refine wp_if rfl H (fun H => ?_) (fun H => ?_)
          · refine wp_exit ?_
            refine then_exit ?_
            refine then_exit ?_
            refine block_other rfl ?_
            refine then_exit ?_
            refine block_exit ?_
            exact ⟨(fun i => ([x15, x2, x10, x10, (D_2 0), (D_2 1), (D_2 2), x15, x18, x2, x18, undef, undef, undef, undef, undef, undef, undef, undef, undef, undef, undef, undef, undef, undef, undef, undef, undef, undef, undef, undef, undef, undef, undef, undef, undef, undef, undef, undef, undef, undef, undef, undef, undef, undef, undef, undef, undef, undef, undef] ++ [undef, undef, undef, undef, undef]).getD i undef), x2, h, by kernel_rfl, HA_4, H⟩
          · refine wp_skip ?_
            refine then_normal ?_
            refine fr_eq (b := ⟨([x0, x1, x2, undef, undef, undef, (.slice none 0 0), (.int .i64 0), x15, x2, x10, x10, (D_2 0), (D_2 1), (D_2 2), x15, x18, x2, x18, undef, undef, undef, undef, undef, undef, undef, undef, undef, undef, undef, undef, undef, undef, undef, undef, undef, undef, undef, undef, undef, undef, undef, undef, undef, undef, undef, undef, undef, undef, undef] ++ [undef, undef, undef, undef, undef, undef, undef, undef, undef, undef, undef, undef, undef, undef, undef, undef, undef, undef, undef, undef, undef, undef, undef, undef, undef, undef, undef, undef, undef, undef, undef, undef, undef, undef, undef, undef, undef, undef]).toArray, []⟩) (by kernel_rfl) ?_
            refine wp_seq ?_
            refine wp_seq ?_
            refine lwp_list ?_
            refine ls_move (x := x2) (by kernel_rfl) (by kernel_rfl) ?_
            refine ls_p (d := some 21) (by kernel_rfl) (by kernel_rfl) (p_sEq (by kernel_rfl) (by kernel_rfl) H) (fun x21 H => ?_)
            refine ls_move (x := x21) (by kernel_rfl) (by kernel_rfl) ?_
            refine ls_and [(), (), ()] (fun K a w => ∃ (D_3 : Nat → Value) (x25 : Value), a = ⟨([x0, x1, x2, undef, undef, undef, (.slice none 0 0), (.int .i64 0), x15, x2, x10, x10, (D_2 0), (D_2 1), (D_2 2), x15, x18, x2, x18, undef, x2, x21, x21, (D_3 0), (D_3 1), x25, undef, undef, undef, undef, undef, undef, undef, undef, undef, undef, undef, undef, undef, undef, undef, undef, undef, undef, undef, undef, undef, undef, undef, undef] ++ [undef, undef, undef, undef, undef, undef, undef, undef, undef, undef, undef, undef, undef, undef, undef, undef, undef, undef, undef, undef, undef, undef, undef, undef, undef, undef, undef, undef, undef, undef, undef, undef, undef, undef, undef, undef, undef, undef]).toArray, []⟩ ∧ At w0 w h ∧ K x25) H (fun hb_5 H => ?_) (fun hb_5 H => ?_) ?_
            · refine ls_move (x := x1) (by rw [hb_5]; kernel_rfl) (by kernel_rfl) ?_
              refine ls_p (d := some 24) (by kernel_rfl) (by rw [hb_5]; kernel_rfl) (p_sEq (by kernel_rfl) (by kernel_rfl) H) (fun x24 H => ?_)
              refine ls_pick_t (x := x24) (by kernel_rfl) (by rw [hb_5]; kernel_rfl) (by kernel_rfl) ?_
              refine ls_nil ?_
              refine then_normal ?_
              exact ⟨(fun i => ([x1, x24]).getD i undef), x24, by kernel_rfl, HA_4, H⟩
            · refine ls_skip (d := some 23) (by kernel_rfl) (by rw [hb_5]; kernel_rfl) ?_
              refine ls_skip (d := some 24) (by kernel_rfl) (by rw [hb_5]; kernel_rfl) ?_
              refine ls_pick_f (y := (.bool false)) (by kernel_rfl) (by rw [hb_5]; kernel_rfl) (by kernel_rfl) ?_
              refine ls_nil ?_
              refine then_normal ?_
              exact ⟨(fun i => ([undef, undef]).getD i undef), (.bool false), by kernel_rfl, HA_4, H⟩
            · rintro _ w_5 ⟨D_3, x25, rfl, HA_5, H⟩
              refine ls_move (x := x25) (by kernel_rfl) (by kernel_rfl) ?_
              refine ls_and [(), (), (), ()] (fun K a w => ∃ (D_4 : Nat → Value) (x30 : Value), a = ⟨([x0, x1, x2, undef, undef, undef, (.slice none 0 0), (.int .i64 0), x15, x2, x10, x10, (D_2 0), (D_2 1), (D_2 2), x15, x18, x2, x18, undef, x2, x21, x21, (D_3 0), (D_3 1), x25, x25, (D_4 0), (D_4 1), (D_4 2), x30, undef, undef, undef, undef, undef, undef, undef, undef, undef, undef, undef, undef, undef, undef, undef, undef, undef, undef, undef] ++ [undef, undef, undef, undef, undef, undef, undef, undef, undef, undef, undef, undef, undef, undef, undef, undef, undef, undef, undef, undef, undef, undef, undef, undef, undef, undef, undef, undef, undef, undef, undef, undef, undef, undef, undef, undef, undef, undef]).toArray, []⟩ ∧ At w0 w h ∧ K x30) H (fun hb_4 H => ?_) (fun hb_4 H => ?_) ?_
              · refine ls_move (x := x0) (by rw [hb_4]; kernel_rfl) (by kernel_rfl) ?_
                refine ls_p (d := some 28) (by kernel_rfl) (by rw [hb_4]; kernel_rfl) (p_bits (by decide) (by kernel_rfl) (by kernel_rfl) H) (fun x28 H => ?_)
                refine ls_p (d := some 29) (by kernel_rfl) (by rw [hb_4]; kernel_rfl) (p_sNe (by kernel_rfl) (by kernel_rfl) H) (fun x29 H => ?_)
                refine ls_pick_t (x := x29) (by kernel_rfl) (by rw [hb_4]; kernel_rfl) (by kernel_rfl) ?_
                refine ls_nil ?_
                refine then_normal ?_
                exact ⟨(fun i => ([x0, x28, x29]).getD i undef), x29, by kernel_rfl, HA_5, H⟩
              · refine ls_skip (d := some 27) (by kernel_rfl) (by rw [hb_4]; kernel_rfl) ?_
                refine ls_skip (d := some 28) (by kernel_rfl) (by rw [hb_4]; kernel_rfl) ?_
                refine ls_skip (d := some 29) (by kernel_rfl) (by rw [hb_4]; kernel_rfl) ?_
                refine ls_pick_f (y := (.bool false)) (by kernel_rfl) (by rw [hb_4]; kernel_rfl) (by kernel_rfl) ?_
                refine ls_nil ?_
                refine then_normal ?_
                exact ⟨(fun i => ([undef, undef, undef]).getD i undef), (.bool false), by kernel_rfl, HA_5, H⟩
              · rintro _ w_6 ⟨D_4, x30, rfl, HA_6, H⟩
                refine ls_assign (x := x30) (by kernel_rfl) (by kernel_rfl) ?_
                refine ls_nil ?_
                refine then_normal ?_
                refine fr_eq (b := ⟨([x0, x1, x2, undef, undef, undef, (.slice none 0 0), (.int .i64 0), x15, x2, x10, x10, (D_2 0), (D_2 1), (D_2 2), x15, x18, x2, x18, x30, x2, x21, x21, (D_3 0), (D_3 1), x25, x25, (D_4 0), (D_4 1), (D_4 2), x30, undef, undef, undef, undef, undef, undef, undef, undef, undef, undef, undef, undef, undef, undef, undef, undef, undef, undef, undef] ++ [undef, undef, undef, undef, undef, undef, undef, undef, undef, undef, undef, undef, undef, undef, undef, undef, undef, undef, undef, undef, undef, undef, undef, undef, undef, undef, undef, undef, undef, undef, undef, undef, undef, undef, undef, undef, undef, undef]).toArray, []⟩) (by kernel_rfl) ?_
                refine wp_if rfl H (fun H => ?_) (fun H => ?_)
                · refine wp_exit ?_
                  refine then_exit ?_
                  refine then_exit ?_
                  refine block_other rfl ?_
                  refine then_exit ?_
                  refine block_other rfl ?_
                  refine then_exit ?_
                  refine then_exit ?_
                  refine block_exit ?_
                  refine then_normal ?_
                  refine fr_eq (b := ⟨([x0, x1, x2, undef, undef, undef, (.slice none 0 0), (.int .i64 0), x15, x2, x10, x10, (D_2 0), (D_2 1), (D_2 2), x15, x18, x2, x18, x30, x2, x21, x21, (D_3 0), (D_3 1), x25, x25, (D_4 0), (D_4 1), (D_4 2), x30, undef, undef, undef, undef, undef, undef, undef, undef, undef, undef, undef, undef, undef, undef, undef, undef, undef, undef, undef] ++ [undef, undef, undef, undef, undef, undef, undef, undef, undef, undef, undef, undef, undef, undef, undef, undef, undef, undef, undef, undef, undef, undef, undef, undef, undef, undef, undef, undef, undef, undef, undef, undef, undef, undef, undef, undef, undef, undef]).toArray, []⟩) (by kernel_rfl) ?_
                  refine wp_seq ?_
                  refine wp_seq ?_
                  refine lwp_list ?_
                  refine ls_assign (x := (.slice none 0 0)) (by kernel_rfl) (by kernel_rfl) ?_
                  refine ls_assign (x := (.int .i64 0)) (by kernel_rfl) (by kernel_rfl) ?_
                  refine ls_nil ?_
                  refine then_normal ?_
                  refine fr_eq (b := ⟨([x0, x1, x2, undef, undef, undef, (.slice none 0 0), (.int .i64 0), x15, x2, x10, x10, (D_2 0), (D_2 1), (D_2 2), x15, x18, x2, x18, x30, x2, x21, x21, (D_3 0), (D_3 1), x25, x25, (D_4 0), (D_4 1), (D_4 2), x30, undef, undef, undef, undef, undef, undef, undef, undef, undef, undef, undef, undef, undef, undef, undef, undef, undef, undef, undef] ++ [undef, undef, undef, undef, undef, undef, undef, undef, undef, undef, undef, undef, undef, undef, undef, undef, undef, undef, undef, undef, undef, undef, undef, undef, undef, undef, undef, undef, undef, undef, undef, undef, undef, undef, undef, undef, undef, undef]).toArray, []⟩) (by kernel_rfl) ?_
                  refine wp_ret ?_
                  refine then_ret ?_
                  refine block_ret ?_
                  refine then_ret ?_
                  refine block_ret ?_
                  refine then_ret ?_
                  refine block_ret ?_
                  refine then_ret ?_
                  refine block_ret ?_
                  refine then_ret ?_
                  refine block_ret ?_
                  refine then_ret ?_
                  refine block_ret ?_
                  refine then_ret ?_
                  refine block_ret ?_
                  refine then_ret ?_
                  refine then_ret ?_
                  exact end2 (Try.results84) (by kernel_rfl) (by kernel_rfl) (by kernel_rfl) HA_6 H _ (.inr rfl)
                · refine wp_skip ?_
                  refine then_normal ?_
                  refine fr_eq (b := ⟨([x0, x1, x2, undef, undef, undef, (.slice none 0 0), (.int .i64 0), x15, x2, x10, x10, (D_2 0), (D_2 1), (D_2 2), x15, x18, x2, x18, x30, x2, x21, x21, (D_3 0), (D_3 1), x25, x25, (D_4 0), (D_4 1), (D_4 2), x30, undef, undef, undef, undef, undef, undef, undef, undef, undef, undef, undef, undef, undef, undef, undef, undef, undef, undef, undef] ++ [undef, undef, undef, undef, undef, undef, undef, undef, undef, undef, undef, undef, undef, undef, undef, undef, undef, undef, undef, undef, undef, undef, undef, undef, undef, undef, undef, undef, undef, undef, undef, undef, undef, undef, undef, undef, undef, undef]).toArray, []⟩) (by kernel_rfl) ?_
                  refine wp_seq ?_
                  refine wp_seq ?_
                  refine lwp_list ?_
                  refine ls_move (x := x2) (by kernel_rfl) (by kernel_rfl) ?_
                  refine ls_p (d := some 33) (by kernel_rfl) (by kernel_rfl) (p_sEq (by kernel_rfl) (by kernel_rfl) H) (fun x33 H => ?_)
                  refine ls_assign (x := x33) (by kernel_rfl) (by kernel_rfl) ?_
                  refine ls_nil ?_
                  refine then_normal ?_
                  refine fr_eq (b := ⟨([x0, x1, x2, undef, undef, undef, (.slice none 0 0), (.int .i64 0), x15, x2, x10, x10, (D_2 0), (D_2 1), (D_2 2), x15, x18, x2, x18, x30, x2, x21, x21, (D_3 0), (D_3 1), x25, x25, (D_4 0), (D_4 1), (D_4 2), x30, x33, x2, x33, undef, undef, undef, undef, undef, undef, undef, undef, undef, undef, undef, undef, undef, undef, undef, undef] ++ [undef, undef, undef, undef, undef, undef, undef, undef, undef, undef, undef, undef, undef, undef, undef, undef, undef, undef, undef, undef, undef, undef, undef, undef, undef, undef, undef, undef, undef, undef, undef, undef, undef, undef, undef, undef, undef, undef]).toArray, []⟩) (by kernel_rfl) ?_
                  refine wp_if rfl H (fun H => ?_) (fun H => ?_)
                  · refine wp_exit ?_
                    refine then_exit ?_
                    refine then_exit ?_
                    refine block_other rfl ?_
                    refine then_exit ?_
                    refine block_other rfl ?_
                    refine then_exit ?_
                    refine then_exit ?_
                    refine block_other rfl ?_
                    refine then_exit ?_
                    refine block_exit ?_
                    refine then_normal ?_
                    refine fr_eq (b := ⟨([x0, x1, x2, undef, undef, undef, (.slice none 0 0), (.int .i64 0), x15, x2, x10, x10, (D_2 0), (D_2 1), (D_2 2), x15, x18, x2, x18, x30, x2, x21, x21, (D_3 0), (D_3 1), x25, x25, (D_4 0), (D_4 1), (D_4 2), x30, x33, x2, x33, undef, undef, undef, undef, undef, undef, undef, undef, undef, undef, undef, undef, undef, undef, undef, undef] ++ [undef, undef, undef, undef, undef, undef, undef, undef, undef, undef, undef, undef, undef, undef, undef, undef, undef, undef, undef, undef, undef, undef, undef, undef, undef, undef, undef, undef, undef, undef, undef, undef, undef, undef, undef, undef, undef, undef]).toArray, []⟩) (by kernel_rfl) ?_
                    refine wp_seq ?_
                    refine lwp_list ?_
                    refine ls_assign (x := (.int .i64 0)) (by kernel_rfl) (by kernel_rfl) ?_
                    refine ls_nil ?_
                    refine then_normal ?_
                    refine fr_eq (b := ⟨([x0, (.int .i64 0), x2, undef, undef, undef, (.slice none 0 0), (.int .i64 0), x15, x2, x10, x10, (D_2 0), (D_2 1), (D_2 2), x15, x18, x2, x18, x30, x2, x21, x21, (D_3 0), (D_3 1), x25, x25, (D_4 0), (D_4 1), (D_4 2), x30, x33, x2, x33, undef, undef, undef, undef, undef, undef, undef, undef, undef, undef, undef, undef, undef, undef, undef, undef] ++ [undef, undef, undef, undef, undef, undef, undef, undef, undef, undef, undef, undef, undef, undef, undef, undef, undef, undef, undef, undef, undef, undef, undef, undef, undef, undef, undef, undef, undef, undef, undef, undef, undef, undef, undef, undef, undef, undef]).toArray, []⟩) (by kernel_rfl) ?_
                    refine wp_exit ?_
                    refine block_other rfl ?_
                    refine then_exit ?_
                    refine block_other rfl ?_
                    refine then_exit ?_
                    refine block_other rfl ?_
                    refine then_exit ?_
                    refine block_other rfl ?_
                    refine then_exit ?_
                    refine block_other rfl ?_
                    refine then_exit ?_
                    refine block_exit ?_
                    exact ⟨(fun i => ([(.slice none 0 0), (.int .i64 0), x15, x2, x10, x10, (D_2 0), (D_2 1), (D_2 2), x15, x18, x2, x18, x30, x2, x21, x21, (D_3 0), (D_3 1), x25, x25, (D_4 0), (D_4 1), (D_4 2), x30, x33, x2, x33, undef, undef, undef, undef, undef, undef, undef, undef, undef, undef, undef, undef, undef, undef, undef, undef, undef, undef, undef, undef, undef, undef] ++ [undef, undef, undef, undef, undef, undef, undef, undef, undef, undef, undef, undef, undef, undef, undef, undef, undef, undef, undef, undef, undef, undef, undef, undef, undef, undef, undef, undef, undef]).getD i undef), (.int .i64 0), x2, h, by kernel_rfl, HA_6, H⟩
                  · refine wp_skip ?_
                    refine then_normal ?_
                    refine fr_eq (b := ⟨([x0, x1, x2, undef, undef, undef, (.slice none 0 0), (.int .i64 0), x15, x2, x10, x10, (D_2 0), (D_2 1), (D_2 2), x15, x18, x2, x18, x30, x2, x21, x21, (D_3 0), (D_3 1), x25, x25, (D_4 0), (D_4 1), (D_4 2), x30, x33, x2, x33, undef, undef, undef, undef, undef, undef, undef, undef, undef, undef, undef, undef, undef, undef, undef, undef] ++ [undef, undef, undef, undef, undef, undef, undef, undef, undef, undef, undef, undef, undef, undef, undef, undef, undef, undef, undef, undef, undef, undef, undef, undef, undef, undef, undef, undef, undef, undef, undef, undef, undef, undef, undef, undef, undef, undef]).toArray, []⟩) (by kernel_rfl) ?_
                    refine wp_seq ?_
                    refine wp_seq ?_
                    refine lwp_list ?_
                    refine ls_move (x := x2) (by kernel_rfl) (by kernel_rfl) ?_
                    refine ls_p (d := some 36) (by kernel_rfl) (by kernel_rfl) (p_sEq (by kernel_rfl) (by kernel_rfl) H) (fun x36 H => ?_)
                    refine ls_move (x := x36) (by kernel_rfl) (by kernel_rfl) ?_
                    refine ls_and [(), (), (), ()] (fun K a w => ∃ (D_5 : Nat → Value) (x41 : Value), a = ⟨([x0, x1, x2, undef, undef, undef, (.slice none 0 0), (.int .i64 0), x15, x2, x10, x10, (D_2 0), (D_2 1), (D_2 2), x15, x18, x2, x18, x30, x2, x21, x21, (D_3 0), (D_3 1), x25, x25, (D_4 0), (D_4 1), (D_4 2), x30, x33, x2, x33, undef, x2, x36, x36, (D_5 0), (D_5 1), (D_5 2), x41, undef, undef, undef, undef, undef, undef, undef, undef] ++ [undef, undef, undef, undef, undef, undef, undef, undef, undef, undef, undef, undef, undef, undef, undef, undef, undef, undef, undef, undef, undef, undef, undef, undef, undef, undef, undef, undef, undef, undef, undef, undef, undef, undef, undef, undef, undef, undef]).toArray, []⟩ ∧ At w0 w h ∧ K x41) H (fun hb_3 H => ?_) (fun hb_3 H => ?_) ?_
                    · refine ls_move (x := x0) (by rw [hb_3]; kernel_rfl) (by kernel_rfl) ?_
                      refine ls_p (d := some 39) (by kernel_rfl) (by rw [hb_3]; kernel_rfl) (p_bits (by decide) (by kernel_rfl) (by kernel_rfl) H) (fun x39 H => ?_)
                      refine ls_p (d := some 40) (by kernel_rfl) (by rw [hb_3]; kernel_rfl) (p_sNe (by kernel_rfl) (by kernel_rfl) H) (fun x40 H => ?_)
                      refine ls_fr (b := ⟨([x0, x1, x2, undef, undef, undef, (.slice none 0 0), (.int .i64 0), x15, x2, x10, x10, (D_2 0), (D_2 1), (D_2 2), x15, x18, x2, x18, x30, x2, x21, x21, (D_3 0), (D_3 1), x25, x25, (D_4 0), (D_4 1), (D_4 2), x30, x33, x2, x33, undef, x2, x36, x36, x0, x39, x40, undef, undef, undef, undef, undef, undef, undef, undef, undef] ++ [undef, undef, undef, undef, undef, undef, undef, undef, undef, undef, undef, undef, undef, undef, undef, undef, undef, undef, undef, undef, undef, undef, undef, undef, undef, undef, undef, undef, undef, undef, undef, undef, undef, undef, undef, undef, undef, undef]).toArray, []⟩) (by kernel_rfl) ?_
                      refine ls_pick_t (x := x40) (by kernel_rfl) (by rw [hb_3]; kernel_rfl) (by kernel_rfl) ?_
                      refine ls_nil ?_
                      refine then_normal ?_
                      exact ⟨(fun i => ([x0, x39, x40]).getD i undef), x40, by kernel_rfl, HA_6, H⟩
                    · refine ls_skip (d := some 38) (by kernel_rfl) (by rw [hb_3]; kernel_rfl) ?_
                      refine ls_skip (d := some 39) (by kernel_rfl) (by rw [hb_3]; kernel_rfl) ?_
                      refine ls_skip (d := some 40) (by kernel_rfl) (by rw [hb_3]; kernel_rfl) ?_
                      refine ls_fr (b := ⟨([x0, x1, x2, undef, undef, undef, (.slice none 0 0), (.int .i64 0), x15, x2, x10, x10, (D_2 0), (D_2 1), (D_2 2), x15, x18, x2, x18, x30, x2, x21, x21, (D_3 0), (D_3 1), x25, x25, (D_4 0), (D_4 1), (D_4 2), x30, x33, x2, x33, undef, x2, x36, x36, undef, undef, undef, undef, undef, undef, undef, undef, undef, undef, undef, undef] ++ [undef, undef, undef, undef, undef, undef, undef, undef, undef, undef, undef, undef, undef, undef, undef, undef, undef, undef, undef, undef, undef, undef, undef, undef, undef, undef, undef, undef, undef, undef, undef, undef, undef, undef, undef, undef, undef, undef]).toArray, []⟩) (by kernel_rfl) ?_
                      refine ls_pick_f (y := (.bool false)) (by kernel_rfl) (by rw [hb_3]; kernel_rfl) (by kernel_rfl) ?_
                      refine ls_nil ?_
                      refine then_normal ?_
                      exact ⟨(fun i => ([undef, undef, undef]).getD i undef), (.bool false), by kernel_rfl, HA_6, H⟩
                    · rintro _ w_7 ⟨D_5, x41, rfl, HA_7, H⟩
                      refine ls_assign (x := x41) (by kernel_rfl) (by kernel_rfl) ?_
                      refine ls_nil ?_
                      refine then_normal ?_
                      refine fr_eq (b := ⟨([x0, x1, x2, undef, undef, undef, (.slice none 0 0), (.int .i64 0), x15, x2, x10, x10, (D_2 0), (D_2 1), (D_2 2), x15, x18, x2, x18, x30, x2, x21, x21, (D_3 0), (D_3 1), x25, x25, (D_4 0), (D_4 1), (D_4 2), x30, x33, x2, x33, x41, x2, x36, x36, (D_5 0), (D_5 1), (D_5 2), x41, undef, undef, undef, undef, undef, undef, undef, undef] ++ [undef, undef, undef, undef, undef, undef, undef, undef, undef, undef, undef, undef, undef, undef, undef, undef, undef, undef, undef, undef, undef, undef, undef, undef, undef, undef, undef, undef, undef, undef, undef, undef, undef, undef, undef, undef, undef, undef]).toArray, []⟩) (by kernel_rfl) ?_
                      refine wp_if rfl H (fun H => ?_) (fun H => ?_)
                      · refine wp_exit ?_
                        refine then_exit ?_
                        refine then_exit ?_
                        refine block_other rfl ?_
                        refine then_exit ?_
                        refine block_other rfl ?_
                        refine then_exit ?_
                        refine then_exit ?_
                        refine block_other rfl ?_
                        refine then_exit ?_
                        refine block_other rfl ?_
                        refine then_exit ?_
                        refine block_exit ?_
                        refine then_normal ?_
                        refine fr_eq (b := ⟨([x0, x1, x2, undef, undef, undef, (.slice none 0 0), (.int .i64 0), x15, x2, x10, x10, (D_2 0), (D_2 1), (D_2 2), x15, x18, x2, x18, x30, x2, x21, x21, (D_3 0), (D_3 1), x25, x25, (D_4 0), (D_4 1), (D_4 2), x30, x33, x2, x33, x41, x2, x36, x36, (D_5 0), (D_5 1), (D_5 2), x41, undef, undef, undef, undef, undef, undef, undef, undef] ++ [undef, undef, undef, undef, undef, undef, undef, undef, undef, undef, undef, undef, undef, undef, undef, undef, undef, undef, undef, undef, undef, undef, undef, undef, undef, undef, undef, undef, undef, undef, undef, undef, undef, undef, undef, undef, undef, undef]).toArray, []⟩) (by kernel_rfl) ?_
                        refine wp_seq ?_
                        refine wp_seq ?_
                        refine lwp_list ?_
                        refine ls_d (d := some 70) (by kernel_rfl) (by kernel_rfl) HA_7 (d_slit (zc := #[.int .u8 0]) Try.underlying30 Try.sizeOf5 (by decide) (.inr ⟨by decide, _, Try.zeroValue5, (by kernel_rfl)⟩) (by kernel_rfl) (by kernel_rfl) H) (fun x70 h_4 w_8 H HA_8 => ?_)
                        refine ls_move (x := x1) (by kernel_rfl) (by kernel_rfl) ?_
                        refine ls_d (d := some 72) (by kernel_rfl) (by kernel_rfl) HA_8 (d_call (by kernel_rfl) (by kernel_rfl) H) (fun x72 h_5 w_9 H HA_9 => ?_)
                        refine ls_move (x := x1) (by kernel_rfl) (by kernel_rfl) ?_
                        refine ls_p (d := some 74) (by kernel_rfl) (by kernel_rfl) (p_sub (by kernel_rfl) (by kernel_rfl) H) (fun x74 H => ?_)
                        refine ls_d (d := some 75) (by kernel_rfl) (by kernel_rfl) HA_9 (d_call (by kernel_rfl) (by kernel_rfl) H) (fun x75 h_6 w_10 H HA_10 => ?_)
                        refine ls_fr (b := ⟨([x0, x1, x2, undef, undef, undef, (.slice none 0 0), (.int .i64 0), x15, x2, x10, x10, (D_2 0), (D_2 1), (D_2 2), x15, x18, x2, x18, x30, x2, x21, x21, (D_3 0), (D_3 1), x25, x25, (D_4 0), (D_4 1), (D_4 2), x30, x33, x2, x33, x41, x2, x36, x36, (D_5 0), (D_5 1), (D_5 2), x41, undef, undef, undef, undef, undef, undef, undef, undef] ++ [undef, undef, undef, undef, undef, undef, undef, undef, undef, undef, undef, undef, undef, undef, undef, undef, undef, undef, undef, undef, x70, x1, x72, x1, x74, x75, undef, undef, undef, undef, undef, undef, undef, undef, undef, undef, undef, undef]).toArray, []⟩) (by kernel_rfl) ?_
                        refine ls_move (x := x1) (by kernel_rfl) (by kernel_rfl) ?_
                        refine ls_d (d := some 77) (by kernel_rfl) (by kernel_rfl) HA_10 (d_call (by kernel_rfl) (by kernel_rfl) H) (fun x77 h_7 w_11 H HA_11 => ?_)
                        refine ls_assign (x := x75) (by kernel_rfl) (by kernel_rfl) ?_
                        refine ls_assign (x := x77) (by kernel_rfl) (by kernel_rfl) ?_
                        refine ls_nil ?_
                        refine then_normal ?_
                        refine fr_eq (b := ⟨([x0, x1, x2, undef, undef, undef, x75, x77, x15, x2, x10, x10, (D_2 0), (D_2 1), (D_2 2), x15, x18, x2, x18, x30, x2, x21, x21, (D_3 0), (D_3 1), x25, x25, (D_4 0), (D_4 1), (D_4 2), x30, x33, x2, x33, x41, x2, x36, x36, (D_5 0), (D_5 1), (D_5 2), x41, undef, undef, undef, undef, undef, undef, undef, undef] ++ [undef, undef, undef, undef, undef, undef, undef, undef, undef, undef, undef, undef, undef, undef, undef, undef, undef, undef, undef, undef, x70, x1, x72, x1, x74, x75, x1, x77, undef, undef, undef, undef, undef, undef, undef, undef, undef, undef]).toArray, []⟩) (by kernel_rfl) ?_
                        refine wp_ret ?_
                        refine then_ret ?_
                        refine block_ret ?_
                        refine then_ret ?_
                        refine block_ret ?_
                        refine then_ret ?_
                        refine block_ret ?_
                        refine then_ret ?_
                        refine block_ret ?_
                        refine then_ret ?_
                        refine block_ret ?_
                        refine then_ret ?_
                        refine then_ret ?_
                        exact end2 (Try.results84) (by kernel_rfl) (by kernel_rfl) (by kernel_rfl) HA_11 H _ (.inr rfl)
                      · refine wp_skip ?_
                        refine then_normal ?_
                        refine fr_eq (b := ⟨([x0, x1, x2, undef, undef, undef, (.slice none 0 0), (.int .i64 0), x15, x2, x10, x10, (D_2 0), (D_2 1), (D_2 2), x15, x18, x2, x18, x30, x2, x21, x21, (D_3 0), (D_3 1), x25, x25, (D_4 0), (D_4 1), (D_4 2), x30, x33, x2, x33, x41, x2, x36, x36, (D_5 0), (D_5 1), (D_5 2), x41, undef, undef, undef, undef, undef, undef, undef, undef] ++ [undef, undef, undef, undef, undef, undef, undef, undef, undef, undef, undef, undef, undef, undef, undef, undef, undef, undef, undef, undef, undef, undef, undef, undef, undef, undef, undef, undef, undef, undef, undef, undef, undef, undef, undef, undef, undef, undef]).toArray, []⟩) (by kernel_rfl) ?_
                        refine wp_seq ?_
                        refine wp_seq ?_
                        refine lwp_list ?_
                        refine ls_move (x := x2) (by kernel_rfl) (by kernel_rfl) ?_
                        refine ls_p (d := some 44) (by kernel_rfl) (by kernel_rfl) (p_sEq (by kernel_rfl) (by kernel_rfl) H) (fun x44 H => ?_)
                        refine ls_assign (x := x44) (by kernel_rfl) (by kernel_rfl) ?_
                        refine ls_nil ?_
                        refine then_normal ?_
                        refine fr_eq (b := ⟨([x0, x1, x2, undef, undef, undef, (.slice none 0 0), (.int .i64 0), x15, x2, x10, x10, (D_2 0), (D_2 1), (D_2 2), x15, x18, x2, x18, x30, x2, x21, x21, (D_3 0), (D_3 1), x25, x25, (D_4 0), (D_4 1), (D_4 2), x30, x33, x2, x33, x41, x2, x36, x36, (D_5 0), (D_5 1), (D_5 2), x41, x44, x2, x44, undef, undef, undef, undef, undef] ++ [undef, undef, undef, undef, undef, undef, undef, undef, undef, undef, undef, undef, undef, undef, undef, undef, undef, undef, undef, undef, undef, undef, undef, undef, undef, undef, undef, undef, undef, undef, undef, undef, undef, undef, undef, undef, undef, undef]).toArray, []⟩) (by kernel_rfl) ?_
                        refine wp_if rfl H (fun H => ?_) (fun H => ?_)
                        · refine wp_exit ?_
                          refine then_exit ?_
                          refine then_exit ?_
                          refine block_other rfl ?_
                          refine then_exit ?_
                          refine block_other rfl ?_
                          refine then_exit ?_
                          refine then_exit ?_
                          refine block_other rfl ?_
                          refine then_exit ?_
                          refine block_other rfl ?_
                          refine then_exit ?_
                          refine block_other rfl ?_
                          refine then_exit ?_
                          refine block_exit ?_
                          refine then_normal ?_
                          refine fr_eq (b := ⟨([x0, x1, x2, undef, undef, undef, (.slice none 0 0), (.int .i64 0), x15, x2, x10, x10, (D_2 0), (D_2 1), (D_2 2), x15, x18, x2, x18, x30, x2, x21, x21, (D_3 0), (D_3 1), x25, x25, (D_4 0), (D_4 1), (D_4 2), x30, x33, x2, x33, x41, x2, x36, x36, (D_5 0), (D_5 1), (D_5 2), x41, x44, x2, x44, undef, undef, undef, undef, undef] ++ [undef, undef, undef, undef, undef, undef, undef, undef, undef, undef, undef, undef, undef, undef, undef, undef, undef, undef, undef, undef, undef, undef, undef, undef, undef, undef, undef, undef, undef, undef, undef, undef, undef, undef, undef, undef, undef, undef]).toArray, []⟩) (by kernel_rfl) ?_
                          refine wp_seq ?_
                          refine lwp_list ?_
                          refine ls_move (x := x1) (by kernel_rfl) (by kernel_rfl) ?_
                          refine ls_d (d := some 79) (by kernel_rfl) (by kernel_rfl) HA_7 (d_call (by kernel_rfl) (by kernel_rfl) H) (fun x79 h_8 w_12 H HA_12 => ?_)
                          refine ls_assign (x := x79) (by kernel_rfl) (by kernel_rfl) ?_
                          refine ls_nil ?_
                          refine then_normal ?_
                          refine fr_eq (b := ⟨([x0, x79, x2, undef, undef, undef, (.slice none 0 0), (.int .i64 0), x15, x2, x10, x10, (D_2 0), (D_2 1), (D_2 2), x15, x18, x2, x18, x30, x2, x21, x21, (D_3 0), (D_3 1), x25, x25, (D_4 0), (D_4 1), (D_4 2), x30, x33, x2, x33, x41, x2, x36, x36, (D_5 0), (D_5 1), (D_5 2), x41, x44, x2, x44, undef, undef, undef, undef, undef] ++ [undef, undef, undef, undef, undef, undef, undef, undef, undef, undef, undef, undef, undef, undef, undef, undef, undef, undef, undef, undef, undef, undef, undef, undef, undef, undef, undef, undef, x1, x79, undef, undef, undef, undef, undef, undef, undef, undef]).toArray, []⟩) (by kernel_rfl) ?_
                          refine wp_exit ?_
                          refine block_other rfl ?_
                          refine then_exit ?_
                          refine block_other rfl ?_
                          refine then_exit ?_
                          refine block_other rfl ?_
                          refine then_exit ?_
                          refine block_exit ?_
                          exact ⟨(fun i => ([(.slice none 0 0), (.int .i64 0), x15, x2, x10, x10, (D_2 0), (D_2 1), (D_2 2), x15, x18, x2, x18, x30, x2, x21, x21, (D_3 0), (D_3 1), x25, x25, (D_4 0), (D_4 1), (D_4 2), x30, x33, x2, x33, x41, x2, x36, x36, (D_5 0), (D_5 1), (D_5 2), x41, x44, x2, x44, undef, undef, undef, undef, undef, undef, undef, undef, undef, undef, undef] ++ [undef, undef, undef, undef, undef, undef, undef, undef, undef, undef, undef, undef, undef, undef, undef, undef, undef, undef, undef, undef, undef, undef, x1, x79, undef, undef, undef, undef, undef]).getD i undef), x79, x2, h_8, by kernel_rfl, HA_12, H⟩
                        · refine wp_skip ?_
                          refine then_normal ?_
                          refine fr_eq (b := ⟨([x0, x1, x2, undef, undef, undef, (.slice none 0 0), (.int .i64 0), x15, x2, x10, x10, (D_2 0), (D_2 1), (D_2 2), x15, x18, x2, x18, x30, x2, x21, x21, (D_3 0), (D_3 1), x25, x25, (D_4 0), (D_4 1), (D_4 2), x30, x33, x2, x33, x41, x2, x36, x36, (D_5 0), (D_5 1), (D_5 2), x41, x44, x2, x44, undef, undef, undef, undef, undef] ++ [undef, undef, undef, undef, undef, undef, undef, undef, undef, undef, undef, undef, undef, undef, undef, undef, undef, undef, undef, undef, undef, undef, undef, undef, undef, undef, undef, undef, undef, undef, undef, undef, undef, undef, undef, undef, undef, undef]).toArray, []⟩) (by kernel_rfl) ?_
                          refine wp_seq ?_
                          refine wp_seq ?_
                          refine lwp_list ?_
                          refine ls_move (x := x2) (by kernel_rfl) (by kernel_rfl) ?_
                          refine ls_p (d := some 47) (by kernel_rfl) (by kernel_rfl) (p_sEq (by kernel_rfl) (by kernel_rfl) H) (fun x47 H => ?_)
                          refine ls_assign (x := x47) (by kernel_rfl) (by kernel_rfl) ?_
                          refine ls_nil ?_
                          refine then_normal ?_
                          refine fr_eq (b := ⟨([x0, x1, x2, undef, undef, undef, (.slice none 0 0), (.int .i64 0), x15, x2, x10, x10, (D_2 0), (D_2 1), (D_2 2), x15, x18, x2, x18, x30, x2, x21, x21, (D_3 0), (D_3 1), x25, x25, (D_4 0), (D_4 1), (D_4 2), x30, x33, x2, x33, x41, x2, x36, x36, (D_5 0), (D_5 1), (D_5 2), x41, x44, x2, x44, x47, x2, x47, undef, undef] ++ [undef, undef, undef, undef, undef, undef, undef, undef, undef, undef, undef, undef, undef, undef, undef, undef, undef, undef, undef, undef, undef, undef, undef, undef, undef, undef, undef, undef, undef, undef, undef, undef, undef, undef, undef, undef, undef, undef]).toArray, []⟩) (by kernel_rfl) ?_
                          refine wp_if rfl H (fun H => ?_) (fun H => ?_)
                          · refine wp_exit ?_
                            refine then_exit ?_
                            refine then_exit ?_
                            refine block_other rfl ?_
                            refine then_exit ?_
                            refine block_other rfl ?_
                            refine then_exit ?_
                            refine then_exit ?_
                            refine block_other rfl ?_
                            refine then_exit ?_
                            refine block_other rfl ?_
                            refine then_exit ?_
                            refine block_other rfl ?_
                            refine then_exit ?_
                            refine block_other rfl ?_
                            refine then_exit ?_
                            refine block_exit ?_
                            refine then_normal ?_
                            refine fr_eq (b := ⟨([x0, x1, x2, undef, undef, undef, (.slice none 0 0), (.int .i64 0), x15, x2, x10, x10, (D_2 0), (D_2 1), (D_2 2), x15, x18, x2, x18, x30, x2, x21, x21, (D_3 0), (D_3 1), x25, x25, (D_4 0), (D_4 1), (D_4 2), x30, x33, x2, x33, x41, x2, x36, x36, (D_5 0), (D_5 1), (D_5 2), x41, x44, x2, x44, x47, x2, x47, undef, undef] ++ [undef, undef, undef, undef, undef, undef, undef, undef, undef, undef, undef, undef, undef, undef, undef, undef, undef, undef, undef, undef, undef, undef, undef, undef, undef, undef, undef, undef, undef, undef, undef, undef, undef, undef, undef, undef, undef, undef]).toArray, []⟩) (by kernel_rfl) ?_
                            refine wp_seq ?_
                            refine lwp_list ?_
                            refine ls_move (x := x1) (by kernel_rfl) (by kernel_rfl) ?_
                            refine ls_p (d := some 81) (by kernel_rfl) (by kernel_rfl) (p_sub (by kernel_rfl) (by kernel_rfl) H) (fun x81 H => ?_)
                            refine ls_p (d := some 82) (by kernel_rfl) (by kernel_rfl) (p_max (by kernel_rfl) (by kernel_rfl) H) (fun x82 H => ?_)
                            refine ls_assign (x := x82) (by kernel_rfl) (by kernel_rfl) ?_
                            refine ls_nil ?_
                            refine then_normal ?_
                            refine fr_eq (b := ⟨([x0, x82, x2, undef, undef, undef, (.slice none 0 0), (.int .i64 0), x15, x2, x10, x10, (D_2 0), (D_2 1), (D_2 2), x15, x18, x2, x18, x30, x2, x21, x21, (D_3 0), (D_3 1), x25, x25, (D_4 0), (D_4 1), (D_4 2), x30, x33, x2, x33, x41, x2, x36, x36, (D_5 0), (D_5 1), (D_5 2), x41, x44, x2, x44, x47, x2, x47, undef, undef] ++ [undef, undef, undef, undef, undef, undef, undef, undef, undef, undef, undef, undef, undef, undef, undef, undef, undef, undef, undef, undef, undef, undef, undef, undef, undef, undef, undef, undef, undef, undef, x1, x81, x82, undef, undef, undef, undef, undef]).toArray, []⟩) (by kernel_rfl) ?_
                            refine wp_exit ?_
                            refine block_other rfl ?_
                            refine then_exit ?_
                            refine block_other rfl ?_
                            refine then_exit ?_
                            refine block_exit ?_
                            exact ⟨(fun i => ([(.slice none 0 0), (.int .i64 0), x15, x2, x10, x10, (D_2 0), (D_2 1), (D_2 2), x15, x18, x2, x18, x30, x2, x21, x21, (D_3 0), (D_3 1), x25, x25, (D_4 0), (D_4 1), (D_4 2), x30, x33, x2, x33, x41, x2, x36, x36, (D_5 0), (D_5 1), (D_5 2), x41, x44, x2, x44, x47, x2, x47, undef, undef, undef, undef, undef, undef, undef, undef] ++ [undef, undef, undef, undef, undef, undef, undef, undef, undef, undef, undef, undef, undef, undef, undef, undef, undef, undef, undef, undef, undef, undef, undef, undef, x1, x81, x82, undef, undef]).getD i undef), x82, x2, h, by kernel_rfl, HA_7, H⟩
                          · refine wp_skip ?_
                            refine then_normal ?_
                            refine fr_eq (b := ⟨([x0, x1, x2, undef, undef, undef, (.slice none 0 0), (.int .i64 0), x15, x2, x10, x10, (D_2 0), (D_2 1), (D_2 2), x15, x18, x2, x18, x30, x2, x21, x21, (D_3 0), (D_3 1), x25, x25, (D_4 0), (D_4 1), (D_4 2), x30, x33, x2, x33, x41, x2, x36, x36, (D_5 0), (D_5 1), (D_5 2), x41, x44, x2, x44, x47, x2, x47, undef, undef] ++ [undef, undef, undef, undef, undef, undef, undef, undef, undef, undef, undef, undef, undef, undef, undef, undef, undef, undef, undef, undef, undef, undef, undef, undef, undef, undef, undef, undef, undef, undef, undef, undef, undef, undef, undef, undef, undef, undef]).toArray, []⟩) (by kernel_rfl) ?_
                            refine wp_seq ?_
                            refine lwp_list ?_
                            refine ls_move (x := x2) (by kernel_rfl) (by kernel_rfl) ?_
                            refine ls_p (d := some 50) (by kernel_rfl) (by kernel_rfl) (p_sLt (by kernel_rfl) (by kernel_rfl) H) (fun x50 H => ?_)
                            refine ls_move (x := x50) (by kernel_rfl) (by kernel_rfl) ?_
                            refine ls_or [(), (), ()] (fun K a w => ∃ (D_6 : Nat → Value) (x54 : Value), a = ⟨([x0, x1, x2, undef, undef, undef, (.slice none 0 0), (.int .i64 0), x15, x2, x10, x10, (D_2 0), (D_2 1), (D_2 2), x15, x18, x2, x18, x30, x2, x21, x21, (D_3 0), (D_3 1), x25, x25, (D_4 0), (D_4 1), (D_4 2), x30, x33, x2, x33, x41, x2, x36, x36, (D_5 0), (D_5 1), (D_5 2), x41, x44, x2, x44, x47, x2, x47, undef, x2] ++ [x50, x50, (D_6 0), (D_6 1), x54, undef, undef, undef, undef, undef, undef, undef, undef, undef, undef, undef, undef, undef, undef, undef, undef, undef, undef, undef, undef, undef, undef, undef, undef, undef, undef, undef, undef, undef, undef, undef, undef, undef]).toArray, []⟩ ∧ At w0 w h ∧ K x54) H (fun hb_2 H => ?_) (fun hb_2 H => ?_) ?_
                            · refine ls_move (x := x2) (by rw [hb_2]; kernel_rfl) (by kernel_rfl) ?_
                              refine ls_p (d := some 53) (by kernel_rfl) (by rw [hb_2]; kernel_rfl) (p_sEq (by kernel_rfl) (by kernel_rfl) H) (fun x53 H => ?_)
                              refine ls_pick_f (y := x53) (by kernel_rfl) (by rw [hb_2]; kernel_rfl) (by kernel_rfl) ?_
                              refine ls_nil ?_
                              refine then_normal ?_
                              exact ⟨(fun i => ([x2, x53]).getD i undef), x53, by kernel_rfl, HA_7, H⟩
                            · refine ls_skip (d := some 52) (by kernel_rfl) (by rw [hb_2]; kernel_rfl) ?_
                              refine ls_skip (d := some 53) (by kernel_rfl) (by rw [hb_2]; kernel_rfl) ?_
                              refine ls_pick_t (x := (.bool true)) (by kernel_rfl) (by rw [hb_2]; kernel_rfl) (by kernel_rfl) ?_
                              refine ls_nil ?_
                              refine then_normal ?_
                              exact ⟨(fun i => ([undef, undef]).getD i undef), (.bool true), by kernel_rfl, HA_7, H⟩
                            · rintro _ w_13 ⟨D_6, x54, rfl, HA_13, H⟩
                              refine ls_move (x := x54) (by kernel_rfl) (by kernel_rfl) ?_
                              refine ls_or [(), (), (), (), (), (), ()] (fun K a w => ∃ (D_7 : Nat → Value) (x62 : Value), a = ⟨([x0, x1, x2, undef, undef, undef, (.slice none 0 0), (.int .i64 0), x15, x2, x10, x10, (D_2 0), (D_2 1), (D_2 2), x15, x18, x2, x18, x30, x2, x21, x21, (D_3 0), (D_3 1), x25, x25, (D_4 0), (D_4 1), (D_4 2), x30, x33, x2, x33, x41, x2, x36, x36, (D_5 0), (D_5 1), (D_5 2), x41, x44, x2, x44, x47, x2, x47, undef, x2] ++ [x50, x50, (D_6 0), (D_6 1), x54, x54, (D_7 0), (D_7 1), (D_7 2), (D_7 3), (D_7 4), (D_7 5), x62, undef, undef, undef, undef, undef, undef, undef, undef, undef, undef, undef, undef, undef, undef, undef, undef, undef, undef, undef, undef, undef, undef, undef, undef, undef]).toArray, []⟩ ∧ At w0 w h ∧ K x62) H (fun hb H => ?_) (fun hb H => ?_) ?_
                              · refine ls_move (x := x2) (by rw [hb]; kernel_rfl) (by kernel_rfl) ?_
                                refine ls_p (d := some 57) (by kernel_rfl) (by rw [hb]; kernel_rfl) (p_sGe (by kernel_rfl) (by kernel_rfl) H) (fun x57 H => ?_)
                                refine ls_move (x := x57) (by rw [hb]; kernel_rfl) (by kernel_rfl) ?_
                                refine ls_and [(), (), ()] (fun K a w => ∃ (D_8 : Nat → Value) (x61 : Value), a = ⟨([x0, x1, x2, undef, undef, undef, (.slice none 0 0), (.int .i64 0), x15, x2, x10, x10, (D_2 0), (D_2 1), (D_2 2), x15, x18, x2, x18, x30, x2, x21, x21, (D_3 0), (D_3 1), x25, x25, (D_4 0), (D_4 1), (D_4 2), x30, x33, x2, x33, x41, x2, x36, x36, (D_5 0), (D_5 1), (D_5 2), x41, x44, x2, x44, x47, x2, x47, undef, x2] ++ [x50, x50, (D_6 0), (D_6 1), x54, x54, x2, x57, x57, (D_8 0), (D_8 1), x61, undef, undef, undef, undef, undef, undef, undef, undef, undef, undef, undef, undef, undef, undef, undef, undef, undef, undef, undef, undef, undef, undef, undef, undef, undef, undef]).toArray, []⟩ ∧ At w0 w h ∧ K x61) H (fun hb_1 H => ?_) (fun hb_1 H => ?_) ?_
                                · refine ls_move (x := x2) (by rw [hb_1]; kernel_rfl) (by kernel_rfl) ?_
                                  refine ls_p (d := some 60) (by kernel_rfl) (by rw [hb_1]; kernel_rfl) (p_sLt (by kernel_rfl) (by kernel_rfl) H) (fun x60 H => ?_)
                                  refine ls_fr (b := ⟨([x0, x1, x2, undef, undef, undef, (.slice none 0 0), (.int .i64 0), x15, x2, x10, x10, (D_2 0), (D_2 1), (D_2 2), x15, x18, x2, x18, x30, x2, x21, x21, (D_3 0), (D_3 1), x25, x25, (D_4 0), (D_4 1), (D_4 2), x30, x33, x2, x33, x41, x2, x36, x36, (D_5 0), (D_5 1), (D_5 2), x41, x44, x2, x44, x47, x2, x47, undef, x2] ++ [x50, x50, (D_6 0), (D_6 1), x54, x54, x2, x57, x57, x2, x60, undef, undef, undef, undef, undef, undef, undef, undef, undef, undef, undef, undef, undef, undef, undef, undef, undef, undef, undef, undef, undef, undef, undef, undef, undef, undef, undef]).toArray, []⟩) (by kernel_rfl) ?_
                                  refine ls_pick_t (x := x60) (by rw [hb]; kernel_rfl) (by rw [hb_1]; kernel_rfl) (by kernel_rfl) ?_
                                  refine ls_nil ?_
                                  refine then_normal ?_
                                  exact ⟨(fun i => ([x2, x60]).getD i undef), x60, by kernel_rfl, HA_13, H⟩
                                · refine ls_skip (d := some 59) (by kernel_rfl) (by rw [hb_1]; kernel_rfl) ?_
                                  refine ls_skip (d := some 60) (by kernel_rfl) (by rw [hb_1]; kernel_rfl) ?_
                                  refine ls_fr (b := ⟨([x0, x1, x2, undef, undef, undef, (.slice none 0 0), (.int .i64 0), x15, x2, x10, x10, (D_2 0), (D_2 1), (D_2 2), x15, x18, x2, x18, x30, x2, x21, x21, (D_3 0), (D_3 1), x25, x25, (D_4 0), (D_4 1), (D_4 2), x30, x33, x2, x33, x41, x2, x36, x36, (D_5 0), (D_5 1), (D_5 2), x41, x44, x2, x44, x47, x2, x47, undef, x2] ++ [x50, x50, (D_6 0), (D_6 1), x54, x54, x2, x57, x57, undef, undef, undef, undef, undef, undef, undef, undef, undef, undef, undef, undef, undef, undef, undef, undef, undef, undef, undef, undef, undef, undef, undef, undef, undef, undef, undef, undef, undef]).toArray, []⟩) (by kernel_rfl) ?_
                                  refine ls_pick_f (y := (.bool false)) (by rw [hb]; kernel_rfl) (by rw [hb_1]; kernel_rfl) (by kernel_rfl) ?_
                                  refine ls_nil ?_
                                  refine then_normal ?_
                                  exact ⟨(fun i => ([undef, undef]).getD i undef), (.bool false), by kernel_rfl, HA_13, H⟩
                                · rintro _ w_15 ⟨D_8, x61, rfl, HA_15, H⟩
                                  refine ls_pick_f (y := x61) (by kernel_rfl) (by rw [hb]; kernel_rfl) (by kernel_rfl) ?_
                                  refine ls_nil ?_
                                  refine then_normal ?_
                                  exact ⟨(fun i => ([x2, x57, x57, (D_8 0), (D_8 1), x61]).getD i undef), x61, by kernel_rfl, HA_15, H⟩
                              · refine ls_skip (d := some 56) (by kernel_rfl) (by rw [hb]; kernel_rfl) ?_
                                refine ls_skip (d := some 57) (by kernel_rfl) (by rw [hb]; kernel_rfl) ?_
                                refine ls_skip (d := some 58) (by kernel_rfl) (by rw [hb]; kernel_rfl) ?_
                                refine ls_skip (d := some 59) (by kernel_rfl) (by kernel_rfl) ?_
                                refine ls_skip (d := some 60) (by kernel_rfl) (by kernel_rfl) ?_
                                refine ls_fr (b := ⟨([x0, x1, x2, undef, undef, undef, (.slice none 0 0), (.int .i64 0), x15, x2, x10, x10, (D_2 0), (D_2 1), (D_2 2), x15, x18, x2, x18, x30, x2, x21, x21, (D_3 0), (D_3 1), x25, x25, (D_4 0), (D_4 1), (D_4 2), x30, x33, x2, x33, x41, x2, x36, x36, (D_5 0), (D_5 1), (D_5 2), x41, x44, x2, x44, x47, x2, x47, undef, x2] ++ [x50, x50, (D_6 0), (D_6 1), x54, x54, undef, undef, undef, undef, undef, undef, undef, undef, undef, undef, undef, undef, undef, undef, undef, undef, undef, undef, undef, undef, undef, undef, undef, undef, undef, undef, undef, undef, undef, undef, undef, undef]).toArray, []⟩) (by kernel_rfl) ?_
                                refine ls_skip (d := some 61) (by kernel_rfl) (by rw [hb]; kernel_rfl) ?_
                                refine ls_pick_t (x := (.bool true)) (by kernel_rfl) (by rw [hb]; kernel_rfl) (by kernel_rfl) ?_
                                refine ls_nil ?_
                                refine then_normal ?_
                                exact ⟨(fun i => ([undef, undef, undef, undef, undef, undef]).getD i undef), (.bool true), by kernel_rfl, HA_13, H⟩
                              · rintro _ w_14 ⟨D_7, x62, rfl, HA_14, H⟩
                                refine ls_assign (x := x62) (by kernel_rfl) (by kernel_rfl) ?_
                                refine ls_nil ?_
                                refine then_normal ?_
                                refine fr_eq (b := ⟨([x0, x1, x2, undef, undef, undef, (.slice none 0 0), (.int .i64 0), x15, x2, x10, x10, (D_2 0), (D_2 1), (D_2 2), x15, x18, x2, x18, x30, x2, x21, x21, (D_3 0), (D_3 1), x25, x25, (D_4 0), (D_4 1), (D_4 2), x30, x33, x2, x33, x41, x2, x36, x36, (D_5 0), (D_5 1), (D_5 2), x41, x44, x2, x44, x47, x2, x47, x62, x2] ++ [x50, x50, (D_6 0), (D_6 1), x54, x54, (D_7 0), (D_7 1), (D_7 2), (D_7 3), (D_7 4), (D_7 5), x62, undef, undef, undef, undef, undef, undef, undef, undef, undef, undef, undef, undef, undef, undef, undef, undef, undef, undef, undef, undef, undef, undef, undef, undef, undef]).toArray, []⟩) (by kernel_rfl) ?_
                                refine wp_if rfl H (fun H => ?_) (fun H => ?_)
                                · refine wp_exit ?_
                                  refine then_exit ?_
                                  refine block_other rfl ?_
                                  refine then_exit ?_
                                  refine block_other rfl ?_
                                  refine then_exit ?_
                                  refine then_exit ?_
                                  refine block_other rfl ?_
                                  refine then_exit ?_
                                  refine block_other rfl ?_
                                  refine then_exit ?_
                                  refine block_other rfl ?_
                                  refine then_exit ?_
                                  refine block_other rfl ?_
                                  refine then_exit ?_
                                  refine block_other rfl ?_
                                  refine then_exit ?_
                                  refine block_exit ?_
                                  refine then_normal ?_
                                  refine fr_eq (b := ⟨([x0, x1, x2, undef, undef, undef, (.slice none 0 0), (.int .i64 0), x15, x2, x10, x10, (D_2 0), (D_2 1), (D_2 2), x15, x18, x2, x18, x30, x2, x21, x21, (D_3 0), (D_3 1), x25, x25, (D_4 0), (D_4 1), (D_4 2), x30, x33, x2, x33, x41, x2, x36, x36, (D_5 0), (D_5 1), (D_5 2), x41, x44, x2, x44, x47, x2, x47, x62, x2] ++ [x50, x50, (D_6 0), (D_6 1), x54, x54, (D_7 0), (D_7 1), (D_7 2), (D_7 3), (D_7 4), (D_7 5), x62, undef, undef, undef, undef, undef, undef, undef, undef, undef, undef, undef, undef, undef, undef, undef, undef, undef, undef, undef, undef, undef, undef, undef, undef, undef]).toArray, []⟩) (by kernel_rfl) ?_
                                  refine wp_exit ?_
                                  refine block_other rfl ?_
                                  refine then_exit ?_
                                  refine block_exit ?_
                                  exact ⟨(fun i => ([(.slice none 0 0), (.int .i64 0), x15, x2, x10, x10, (D_2 0), (D_2 1), (D_2 2), x15, x18, x2, x18, x30, x2, x21, x21, (D_3 0), (D_3 1), x25, x25, (D_4 0), (D_4 1), (D_4 2), x30, x33, x2, x33, x41, x2, x36, x36, (D_5 0), (D_5 1), (D_5 2), x41, x44, x2, x44, x47, x2, x47, x62, x2, x50, x50, (D_6 0), (D_6 1), x54, x54] ++ [(D_7 0), (D_7 1), (D_7 2), (D_7 3), (D_7 4), (D_7 5), x62, undef, undef, undef, undef, undef, undef, undef, undef, undef, undef, undef, undef, undef, undef, undef, undef, undef, undef, undef, undef, undef, undef]).getD i undef), x1, x2, h, by kernel_rfl, HA_14, H⟩
                                · refine wp_skip ?_
                                  refine then_normal ?_
                                  refine fr_eq (b := ⟨([x0, x1, x2, undef, undef, undef, (.slice none 0 0), (.int .i64 0), x15, x2, x10, x10, (D_2 0), (D_2 1), (D_2 2), x15, x18, x2, x18, x30, x2, x21, x21, (D_3 0), (D_3 1), x25, x25, (D_4 0), (D_4 1), (D_4 2), x30, x33, x2, x33, x41, x2, x36, x36, (D_5 0), (D_5 1), (D_5 2), x41, x44, x2, x44, x47, x2, x47, x62, x2] ++ [x50, x50, (D_6 0), (D_6 1), x54, x54, (D_7 0), (D_7 1), (D_7 2), (D_7 3), (D_7 4), (D_7 5), x62, undef, undef, undef, undef, undef, undef, undef, undef, undef, undef, undef, undef, undef, undef, undef, undef, undef, undef, undef, undef, undef, undef, undef, undef, undef]).toArray, []⟩) (by kernel_rfl) ?_
                                  refine wp_exit ?_
                                  refine block_other rfl ?_
                                  refine then_exit ?_
                                  refine block_other rfl ?_
                                  refine then_exit ?_
                                  refine then_exit ?_
                                  refine block_other rfl ?_
                                  refine then_exit ?_
                                  refine block_other rfl ?_
                                  refine then_exit ?_
                                  refine block_other rfl ?_
                                  refine then_exit ?_
                                  refine block_other rfl ?_
                                  refine then_exit ?_
                                  refine block_other rfl ?_
                                  refine then_exit ?_
                                  refine block_other rfl ?_
                                  refine then_exit ?_
                                  refine block_exit ?_
                                  refine then_normal ?_
                                  refine fr_eq (b := ⟨([x0, x1, x2, undef, undef, undef, (.slice none 0 0), (.int .i64 0), x15, x2, x10, x10, (D_2 0), (D_2 1), (D_2 2), x15, x18, x2, x18, x30, x2, x21, x21, (D_3 0), (D_3 1), x25, x25, (D_4 0), (D_4 1), (D_4 2), x30, x33, x2, x33, x41, x2, x36, x36, (D_5 0), (D_5 1), (D_5 2), x41, x44, x2, x44, x47, x2, x47, x62, x2] ++ [x50, x50, (D_6 0), (D_6 1), x54, x54, (D_7 0), (D_7 1), (D_7 2), (D_7 3), (D_7 4), (D_7 5), x62, undef, undef, undef, undef, undef, undef, undef, undef, undef, undef, undef, undef, undef, undef, undef, undef, undef, undef, undef, undef, undef, undef, undef, undef, undef]).toArray, []⟩) (by kernel_rfl) ?_
                                  refine wp_seq ?_
                                  refine lwp_list ?_
                                  refine ls_move (x := x1) (by kernel_rfl) (by kernel_rfl) ?_
                                  refine ls_p (d := some 84) (by kernel_rfl) (by kernel_rfl) (p_add (by kernel_rfl) (by kernel_rfl) H) (fun x84 H => ?_)
                                  refine ls_assign (x := x84) (by kernel_rfl) (by kernel_rfl) ?_
                                  refine ls_nil ?_
                                  refine then_normal ?_
                                  refine fr_eq (b := ⟨([x0, x84, x2, undef, undef, undef, (.slice none 0 0), (.int .i64 0), x15, x2, x10, x10, (D_2 0), (D_2 1), (D_2 2), x15, x18, x2, x18, x30, x2, x21, x21, (D_3 0), (D_3 1), x25, x25, (D_4 0), (D_4 1), (D_4 2), x30, x33, x2, x33, x41, x2, x36, x36, (D_5 0), (D_5 1), (D_5 2), x41, x44, x2, x44, x47, x2, x47, x62, x2] ++ [x50, x50, (D_6 0), (D_6 1), x54, x54, (D_7 0), (D_7 1), (D_7 2), (D_7 3), (D_7 4), (D_7 5), x62, undef, undef, undef, undef, undef, undef, undef, undef, undef, undef, undef, undef, undef, undef, undef, undef, undef, undef, undef, undef, x1, x84, undef, undef, undef]).toArray, []⟩) (by kernel_rfl) ?_
                                  refine wp_exit ?_
                                  refine block_exit ?_
                                  exact ⟨(fun i => ([(.slice none 0 0), (.int .i64 0), x15, x2, x10, x10, (D_2 0), (D_2 1), (D_2 2), x15, x18, x2, x18, x30, x2, x21, x21, (D_3 0), (D_3 1), x25, x25, (D_4 0), (D_4 1), (D_4 2), x30, x33, x2, x33, x41, x2, x36, x36, (D_5 0), (D_5 1), (D_5 2), x41, x44, x2, x44, x47, x2, x47, x62, x2, x50, x50, (D_6 0), (D_6 1), x54, x54] ++ [(D_7 0), (D_7 1), (D_7 2), (D_7 3), (D_7 4), (D_7 5), x62, undef, undef, undef, undef, undef, undef, undef, undef, undef, undef, undef, undef, undef, undef, undef, undef, undef, undef, undef, undef, x1, x84]).getD i undef), x84, x2, h, by kernel_rfl, HA_14, H⟩
    · rintro _ w_2 ⟨D_1, x2_2, h_2, rfl, HA_2, H⟩
      unfold opost_post_j2 at H
      refine then_normal ?_
      refine fr_eq (b := ⟨([x0, x1, x2_2, undef, undef, undef, (.slice none 0 0), (.int .i64 0), (D_1 0), (D_1 1), (D_1 2), (D_1 3), (D_1 4), (D_1 5), (D_1 6), (D_1 7), (D_1 8), (D_1 9), (D_1 10), (D_1 11), (D_1 12), (D_1 13), (D_1 14), (D_1 15), (D_1 16), (D_1 17), (D_1 18), (D_1 19), (D_1 20), (D_1 21), (D_1 22), (D_1 23), (D_1 24), (D_1 25), (D_1 26), (D_1 27), (D_1 28), (D_1 29), (D_1 30), (D_1 31), (D_1 32), (D_1 33), (D_1 34), (D_1 35), (D_1 36), (D_1 37), (D_1 38), (D_1 39), (D_1 40), (D_1 41)] ++ [(D_1 42), (D_1 43), (D_1 44), (D_1 45), (D_1 46), (D_1 47), (D_1 48), (D_1 49), (D_1 50), (D_1 51), (D_1 52), (D_1 53), (D_1 54), undef, undef, undef, undef, undef, undef, undef, undef, undef, undef, undef, undef, undef, undef, undef, undef, undef, undef, undef, undef, undef, undef, undef, undef, undef]).toArray, []⟩) (by kernel_rfl) ?_
      refine wp_seq ?_
      refine wp_seq ?_
      refine wp_seq ?_
      refine lwp_list ?_
      refine ls_move (x := x0) (by kernel_rfl) (by kernel_rfl) ?_
      refine ls_p (d := some 64) (by kernel_rfl) (by kernel_rfl) (p_bits (by decide) (by kernel_rfl) (by kernel_rfl) H) (fun x64 H => ?_)
      refine ls_p (d := some 65) (by kernel_rfl) (by kernel_rfl) (p_sNe (by kernel_rfl) (by kernel_rfl) H) (fun x65 H => ?_)
      refine ls_nil ?_
      refine then_normal ?_
      refine fr_eq (b := ⟨([x0, x1, x2_2, undef, undef, undef, (.slice none 0 0), (.int .i64 0), (D_1 0), (D_1 1), (D_1 2), (D_1 3), (D_1 4), (D_1 5), (D_1 6), (D_1 7), (D_1 8), (D_1 9), (D_1 10), (D_1 11), (D_1 12), (D_1 13), (D_1 14), (D_1 15), (D_1 16), (D_1 17), (D_1 18), (D_1 19), (D_1 20), (D_1 21), (D_1 22), (D_1 23), (D_1 24), (D_1 25), (D_1 26), (D_1 27), (D_1 28), (D_1 29), (D_1 30), (D_1 31), (D_1 32), (D_1 33), (D_1 34), (D_1 35), (D_1 36), (D_1 37), (D_1 38), (D_1 39), (D_1 40), (D_1 41)] ++ [(D_1 42), (D_1 43), (D_1 44), (D_1 45), (D_1 46), (D_1 47), (D_1 48), (D_1 49), (D_1 50), (D_1 51), (D_1 52), (D_1 53), (D_1 54), x0, x64, x65, undef, undef, undef, undef, undef, undef, undef, undef, undef, undef, undef, undef, undef, undef, undef, undef, undef, undef, undef, undef, undef, undef]).toArray, []⟩) (by kernel_rfl) ?_
      refine wp_if rfl H (fun H => ?_) (fun H => ?_)
      · refine wp_seq ?_
        refine lwp_list ?_
        refine ls_d (d := some 66) (by kernel_rfl) (by kernel_rfl) HA_2 (d_slit (zc := #[.int .u8 0]) Try.underlying30 Try.sizeOf5 (by decide) (.inr ⟨by decide, _, Try.zeroValue5, (by kernel_rfl)⟩) (by kernel_rfl) (by kernel_rfl) H) (fun x66 h_3 w_3 H HA_3 => ?_)
        refine ls_assign (x := x66) (by kernel_rfl) (by kernel_rfl) ?_
        refine ls_assign (x := (.int .i64 0)) (by kernel_rfl) (by kernel_rfl) ?_
        refine ls_nil ?_
        refine then_normal ?_
        refine fr_eq (b := ⟨([x0, x1, x2_2, undef, undef, undef, x66, (.int .i64 0), (D_1 0), (D_1 1), (D_1 2), (D_1 3), (D_1 4), (D_1 5), (D_1 6), (D_1 7), (D_1 8), (D_1 9), (D_1 10), (D_1 11), (D_1 12), (D_1 13), (D_1 14), (D_1 15), (D_1 16), (D_1 17), (D_1 18), (D_1 19), (D_1 20), (D_1 21), (D_1 22), (D_1 23), (D_1 24), (D_1 25), (D_1 26), (D_1 27), (D_1 28), (D_1 29), (D_1 30), (D_1 31), (D_1 32), (D_1 33), (D_1 34), (D_1 35), (D_1 36), (D_1 37), (D_1 38), (D_1 39), (D_1 40), (D_1 41)] ++ [(D_1 42), (D_1 43), (D_1 44), (D_1 45), (D_1 46), (D_1 47), (D_1 48), (D_1 49), (D_1 50), (D_1 51), (D_1 52), (D_1 53), (D_1 54), x0, x64, x65, x66, undef, undef, undef, undef, undef, undef, undef, undef, undef, undef, undef, undef, undef, undef, undef, undef, undef, undef, undef, undef, undef]).toArray, []⟩) (by kernel_rfl) ?_
        refine wp_ret ?_
        refine then_ret ?_
        refine then_ret ?_
        refine block_ret ?_
        refine then_ret ?_
        refine block_ret ?_
        refine then_ret ?_
        refine block_ret ?_
        refine then_ret ?_
        refine block_ret ?_
        refine then_ret ?_
        refine block_ret ?_
        refine then_ret ?_
        refine block_ret ?_
        refine then_ret ?_
        refine block_ret ?_
        refine then_ret ?_
        refine block_ret ?_
        refine then_ret ?_
        refine then_ret ?_
        exact end2 (Try.results84) (by kernel_rfl) (by kernel_rfl) (by kernel_rfl) HA_3 H _ (.inr rfl)
      · refine wp_skip ?_
        refine then_normal ?_
        refine fr_eq (b := ⟨([x0, x1, x2_2, undef, undef, undef, (.slice none 0 0), (.int .i64 0), (D_1 0), (D_1 1), (D_1 2), (D_1 3), (D_1 4), (D_1 5), (D_1 6), (D_1 7), (D_1 8), (D_1 9), (D_1 10), (D_1 11), (D_1 12), (D_1 13), (D_1 14), (D_1 15), (D_1 16), (D_1 17), (D_1 18), (D_1 19), (D_1 20), (D_1 21), (D_1 22), (D_1 23), (D_1 24), (D_1 25), (D_1 26), (D_1 27), (D_1 28), (D_1 29), (D_1 30), (D_1 31), (D_1 32), (D_1 33), (D_1 34), (D_1 35), (D_1 36), (D_1 37), (D_1 38), (D_1 39), (D_1 40), (D_1 41)] ++ [(D_1 42), (D_1 43), (D_1 44), (D_1 45), (D_1 46), (D_1 47), (D_1 48), (D_1 49), (D_1 50), (D_1 51), (D_1 52), (D_1 53), (D_1 54), x0, x64, x65, undef, undef, undef, undef, undef, undef, undef, undef, undef, undef, undef, undef, undef, undef, undef, undef, undef, undef, undef, undef, undef, undef]).toArray, []⟩) (by kernel_rfl) ?_
        refine wp_seq ?_
        refine lwp_list ?_
        refine ls_move (x := x0) (by kernel_rfl) (by kernel_rfl) ?_
        refine ls_p (d := some 68) (by kernel_rfl) (by kernel_rfl) (p_bits (by decide) (by kernel_rfl) (by kernel_rfl) H) (fun x68 H => ?_)
        refine ls_p (d := some 69) (by kernel_rfl) (by kernel_rfl) (p_sNe (by kernel_rfl) (by kernel_rfl) H) (fun x69 H => ?_)
        refine ls_nil ?_
        refine then_normal ?_
        refine fr_eq (b := ⟨([x0, x1, x2_2, undef, undef, undef, (.slice none 0 0), (.int .i64 0), (D_1 0), (D_1 1), (D_1 2), (D_1 3), (D_1 4), (D_1 5), (D_1 6), (D_1 7), (D_1 8), (D_1 9), (D_1 10), (D_1 11), (D_1 12), (D_1 13), (D_1 14), (D_1 15), (D_1 16), (D_1 17), (D_1 18), (D_1 19), (D_1 20), (D_1 21), (D_1 22), (D_1 23), (D_1 24), (D_1 25), (D_1 26), (D_1 27), (D_1 28), (D_1 29), (D_1 30), (D_1 31), (D_1 32), (D_1 33), (D_1 34), (D_1 35), (D_1 36), (D_1 37), (D_1 38), (D_1 39), (D_1 40), (D_1 41)] ++ [(D_1 42), (D_1 43), (D_1 44), (D_1 45), (D_1 46), (D_1 47), (D_1 48), (D_1 49), (D_1 50), (D_1 51), (D_1 52), (D_1 53), (D_1 54), x0, x64, x65, undef, x0, x68, x69, undef, undef, undef, undef, undef, undef, undef, undef, undef, undef, undef, undef, undef, undef, undef, undef, undef, undef]).toArray, []⟩) (by kernel_rfl) ?_
        refine wp_if rfl H (fun H => ?_) (fun H => ?_)
        · refine lwp_list ?_
          refine ls_assign (x := (.int .i64 0)) (by kernel_rfl) (by kernel_rfl) ?_
          refine ls_nil ?_
          refine then_normal ?_
          refine fr_eq (b := ⟨([x0, (.int .i64 0), x2_2, undef, undef, undef, (.slice none 0 0), (.int .i64 0), (D_1 0), (D_1 1), (D_1 2), (D_1 3), (D_1 4), (D_1 5), (D_1 6), (D_1 7), (D_1 8), (D_1 9), (D_1 10), (D_1 11), (D_1 12), (D_1 13), (D_1 14), (D_1 15), (D_1 16), (D_1 17), (D_1 18), (D_1 19), (D_1 20), (D_1 21), (D_1 22), (D_1 23), (D_1 24), (D_1 25), (D_1 26), (D_1 27), (D_1 28), (D_1 29), (D_1 30), (D_1 31), (D_1 32), (D_1 33), (D_1 34), (D_1 35), (D_1 36), (D_1 37), (D_1 38), (D_1 39), (D_1 40), (D_1 41)] ++ [(D_1 42), (D_1 43), (D_1 44), (D_1 45), (D_1 46), (D_1 47), (D_1 48), (D_1 49), (D_1 50), (D_1 51), (D_1 52), (D_1 53), (D_1 54), x0, x64, x65, undef, x0, x68, x69, undef, undef, undef, undef, undef, undef, undef, undef, undef, undef, undef, undef, undef, undef, undef, undef, undef, undef]).toArray, []⟩) (by kernel_rfl) ?_
          refine wp_exit ?_
          refine block_other rfl ?_
          refine then_exit ?_
          refine block_other rfl ?_
          refine then_exit ?_
          refine block_other rfl ?_
          refine then_exit ?_
          refine block_other rfl ?_
          refine then_exit ?_
          refine block_other rfl ?_
          refine then_exit ?_
          refine block_other rfl ?_
          refine then_exit ?_
          refine block_other rfl ?_
          refine then_exit ?_
          refine block_exit ?_
          exact ⟨(fun i => ([(.slice none 0 0), (.int .i64 0), (D_1 0), (D_1 1), (D_1 2), (D_1 3), (D_1 4), (D_1 5), (D_1 6), (D_1 7), (D_1 8), (D_1 9), (D_1 10), (D_1 11), (D_1 12), (D_1 13), (D_1 14), (D_1 15), (D_1 16), (D_1 17), (D_1 18), (D_1 19), (D_1 20), (D_1 21), (D_1 22), (D_1 23), (D_1 24), (D_1 25), (D_1 26), (D_1 27), (D_1 28), (D_1 29), (D_1 30), (D_1 31), (D_1 32), (D_1 33), (D_1 34), (D_1 35), (D_1 36), (D_1 37), (D_1 38), (D_1 39), (D_1 40), (D_1 41), (D_1 42), (D_1 43), (D_1 44), (D_1 45), (D_1 46), (D_1 47)] ++ [(D_1 48), (D_1 49), (D_1 50), (D_1 51), (D_1 52), (D_1 53), (D_1 54), x0, x64, x65, undef, x0, x68, x69, undef, undef, undef, undef, undef, undef, undef, undef, undef, undef, undef, undef, undef, undef, undef]).getD i undef), (.int .i64 0), x2_2, h_2, by kernel_rfl, HA_2, H⟩
        · refine wp_skip ?_
          refine then_normal ?_
          refine fr_eq (b := ⟨([x0, x1, x2_2, undef, undef, undef, (.slice none 0 0), (.int .i64 0), (D_1 0), (D_1 1), (D_1 2), (D_1 3), (D_1 4), (D_1 5), (D_1 6), (D_1 7), (D_1 8), (D_1 9), (D_1 10), (D_1 11), (D_1 12), (D_1 13), (D_1 14), (D_1 15), (D_1 16), (D_1 17), (D_1 18), (D_1 19), (D_1 20), (D_1 21), (D_1 22), (D_1 23), (D_1 24), (D_1 25), (D_1 26), (D_1 27), (D_1 28), (D_1 29), (D_1 30), (D_1 31), (D_1 32), (D_1 33), (D_1 34), (D_1 35), (D_1 36), (D_1 37), (D_1 38), (D_1 39), (D_1 40), (D_1 41)] ++ [(D_1 42), (D_1 43), (D_1 44), (D_1 45), (D_1 46), (D_1 47), (D_1 48), (D_1 49), (D_1 50), (D_1 51), (D_1 52), (D_1 53), (D_1 54), x0, x64, x65, undef, x0, x68, x69, undef, undef, undef, undef, undef, undef, undef, undef, undef, undef, undef, undef, undef, undef, undef, undef, undef, undef]).toArray, []⟩) (by kernel_rfl) ?_
          refine wp_exit ?_
          refine block_other rfl ?_
          refine then_exit ?_
          refine block_other rfl ?_
          refine then_exit ?_
          refine block_other rfl ?_
          refine then_exit ?_
          refine block_other rfl ?_
          refine then_exit ?_
          refine block_other rfl ?_
          refine then_exit ?_
          refine block_other rfl ?_
          refine then_exit ?_
          refine block_other rfl ?_
          refine then_exit ?_
          refine block_exit ?_
          exact ⟨(fun i => ([(.slice none 0 0), (.int .i64 0), (D_1 0), (D_1 1), (D_1 2), (D_1 3), (D_1 4), (D_1 5), (D_1 6), (D_1 7), (D_1 8), (D_1 9), (D_1 10), (D_1 11), (D_1 12), (D_1 13), (D_1 14), (D_1 15), (D_1 16), (D_1 17), (D_1 18), (D_1 19), (D_1 20), (D_1 21), (D_1 22), (D_1 23), (D_1 24), (D_1 25), (D_1 26), (D_1 27), (D_1 28), (D_1 29), (D_1 30), (D_1 31), (D_1 32), (D_1 33), (D_1 34), (D_1 35), (D_1 36), (D_1 37), (D_1 38), (D_1 39), (D_1 40), (D_1 41), (D_1 42), (D_1 43), (D_1 44), (D_1 45), (D_1 46), (D_1 47)] ++ [(D_1 48), (D_1 49), (D_1 50), (D_1 51), (D_1 52), (D_1 53), (D_1 54), x0, x64, x65, undef, x0, x68, x69, undef, undef, undef, undef, undef, undef, undef, undef, undef, undef, undef, undef, undef, undef, undef]).getD i undef), x1, x2_2, h_2, by kernel_rfl, HA_2, H⟩
  · rintro _ w ⟨D, x1_1, x2_1, h, rfl, HA, H⟩
    unfold opost_post_j1 at H
    refine then_normal ?_
    refine fr_eq (b := ⟨([x0, x1_1, x2_1, undef, undef, undef, (D 0), (D 1), (D 2), (D 3), (D 4), (D 5), (D 6), (D 7), (D 8), (D 9), (D 10), (D 11), (D 12), (D 13), (D 14), (D 15), (D 16), (D 17), (D 18), (D 19), (D 20), (D 21), (D 22), (D 23), (D 24), (D 25), (D 26), (D 27), (D 28), (D 29), (D 30), (D 31), (D 32), (D 33), (D 34), (D 35), (D 36), (D 37), (D 38), (D 39), (D 40), (D 41), (D 42), (D 43)] ++ [(D 44), (D 45), (D 46), (D 47), (D 48), (D 49), (D 50), (D 51), (D 52), (D 53), (D 54), (D 55), (D 56), (D 57), (D 58), (D 59), (D 60), (D 61), (D 62), (D 63), (D 64), (D 65), (D 66), (D 67), (D 68), (D 69), (D 70), (D 71), (D 72), (D 73), (D 74), (D 75), (D 76), (D 77), (D 78), undef, undef, undef]).toArray, []⟩) (by kernel_rfl) ?_
    refine wp_seq ?_
    refine lwp_list ?_
    refine ls_move (x := x2_1) (by kernel_rfl) (by kernel_rfl) ?_
    refine ls_d (d := some 86) (by kernel_rfl) (by kernel_rfl) HA (d_slit (zc := #[.int .u8 0]) Try.underlying30 Try.sizeOf5 (by decide) (.inr ⟨by decide, _, Try.zeroValue5, (by kernel_rfl)⟩) (by kernel_rfl) (by kernel_rfl) H) (fun x86 h_1 w_1 H HA_1 => ?_)
    refine ls_move (x := x1_1) (by kernel_rfl) (by kernel_rfl) ?_
    refine ls_assign (x := x86) (by kernel_rfl) (by kernel_rfl) ?_
    refine ls_assign (x := x1_1) (by kernel_rfl) (by kernel_rfl) ?_
    refine ls_nil ?_
    refine then_normal ?_
    refine fr_eq (b := ⟨([x0, x1_1, x2_1, undef, undef, undef, x86, x1_1, (D 2), (D 3), (D 4), (D 5), (D 6), (D 7), (D 8), (D 9), (D 10), (D 11), (D 12), (D 13), (D 14), (D 15), (D 16), (D 17), (D 18), (D 19), (D 20), (D 21), (D 22), (D 23), (D 24), (D 25), (D 26), (D 27), (D 28), (D 29), (D 30), (D 31), (D 32), (D 33), (D 34), (D 35), (D 36), (D 37), (D 38), (D 39), (D 40), (D 41), (D 42), (D 43)] ++ [(D 44), (D 45), (D 46), (D 47), (D 48), (D 49), (D 50), (D 51), (D 52), (D 53), (D 54), (D 55), (D 56), (D 57), (D 58), (D 59), (D 60), (D 61), (D 62), (D 63), (D 64), (D 65), (D 66), (D 67), (D 68), (D 69), (D 70), (D 71), (D 72), (D 73), (D 74), (D 75), (D 76), (D 77), (D 78), x2_1, x86, x1_1]).toArray, []⟩) (by kernel_rfl) ?_
    refine wp_ret ?_
    exact end2 (Try.results84) (by kernel_rfl) (by kernel_rfl) (by kernel_rfl) HA_1 H _ (.inr rfl)

end Go.Proofs.Ytlcklnbgknhhkaa

end

section
/- The shallow reading of one function, and that the function does it. Written by a program. -/
set_option linter.unusedVariables false
namespace Go.Proofs.Ytlcklnbgknhhkaa
open Go Go.HW

def opost_Byte_j1 (R : Value → Heap → Prop) (x0 x2 x1_1 : Value) (h : Heap) : Prop :=
  sBits .and .i64 x0 (.int .i64 1) fun x15 =>
  sNe x15 (.int .i64 0) fun x16 =>
  sIf x16 (opost_post_c x0 x1_1 x2 h fun x20 h_1 => 
  sTup x20 0 fun x21 =>
  sTup x20 1 fun x22 =>
  R (.tuple #[x21, x22]) h_1) (opost_post_c (.int .i64 1) x1_1 x2 h fun x26 h_2 => 
  sTup x26 0 fun x27 =>
  sTup x26 1 fun x28 =>
  sSlit h_2 #[.int .u8 0] [(0, 1, x2)] 5 1 fun x30 h_3 => 
  R (.tuple #[x30, x28]) h_3)
def opost_Byte_S (x0 x1 x2 : Value) (h : Heap) (R : Value → Heap → Prop) : Prop :=
  sLt x1 (.int .i64 0) fun x9 =>
  sOr x9 (fun k =>
  sGt x1 (.int .i64 1073741824) fun x12 =>
  k x12) fun x13 =>
  sIf x13 (opost_Byte_j1 R x0 x2 (.int .i64 0) h) (opost_Byte_j1 R x0 x2 x1 h)
set_option maxRecDepth 100000 in
theorem opost_Byte_runs {x0 x1 x2 : Value} {h : Heap} {R : Value → Heap → Prop} (H : opost_Byte_S x0 x1 x2 h R) : opost_Byte_c x0 x1 x2 h R := by
  unfold opost_Byte_S at H
  refine runs_of (b := ⟨#[x0, x1, x2, undef, undef, undef, undef, undef, undef, undef, undef, undef, undef, undef, undef, undef, undef, undef, undef, undef, undef, undef, undef, undef, undef, undef, undef, undef, undef, undef, undef, undef], []⟩) Try.call74 Try.func74 rfl (by kernel_rfl) (fun w0 HA => ?_)
  refine wp_seq ?_
  refine lwp_list ?_
  refine ls_assign (x := (.slice none 0 0)) (by kernel_rfl) (by kernel_rfl) ?_
  refine ls_assign (x := (.int .i64 0)) (by kernel_rfl) (by kernel_rfl) ?_
  refine ls_nil ?_
  refine then_normal ?_
  refine fr_eq (b := ⟨#[x0, x1, x2, undef, undef, undef, (.slice none 0 0), (.int .i64 0), undef, undef, undef, undef, undef, undef, undef, undef, undef, undef, undef, undef, undef, undef, undef, undef, undef, undef, undef, undef, undef, undef, undef, undef], []⟩) (by kernel_rfl) ?_
  refine wp_seq ?_
  refine wp_seq ?_
  refine lwp_list ?_
  refine ls_move (x := x1) (by kernel_rfl) (by kernel_rfl) ?_
  refine ls_p (d := some 9) (by kernel_rfl) (by kernel_rfl) (p_sLt (by kernel_rfl) (by kernel_rfl) H) (fun x9 H => ?_)
  refine ls_move (x := x9) (by kernel_rfl) (by kernel_rfl) ?_
  refine ls_or [(), (), ()] (fun K a w => ∃ (D : Nat → Value) (x13 : Value), a = ⟨#[x0, x1, x2, undef, undef, undef, (.slice none 0 0), (.int .i64 0), x1, x9, x9, (D 0), (D 1), x13, undef, undef, undef, undef, undef, undef, undef, undef, undef, undef, undef, undef, undef, undef, undef, undef, undef, undef], []⟩ ∧ At w0 w h ∧ K x13) H (fun hb H => ?_) (fun hb H => ?_) ?_
  · refine ls_move (x := x1) (by rw [hb]; kernel_rfl) (by kernel_rfl) ?_
    refine ls_p (d := some 12) (by kernel_rfl) (by rw [hb]; kernel_rfl) (p_sGt (by kernel_rfl) (by kernel_rfl) H) (fun x12 H => ?_)
    refine ls_pick_f (y := x12) (by kernel_rfl) (by rw [hb]; kernel_rfl) (by kernel_rfl) ?_
    refine ls_nil ?_
    refine then_normal ?_
    exact ⟨(fun i => ([x1, x12]).getD i undef), x12, by kernel_rfl, HA, H⟩
  · refine ls_skip (d := some 11) (by kernel_rfl) (by rw [hb]; kernel_rfl) ?_
    refine ls_skip (d := some 12) (by kernel_rfl) (by rw [hb]; kernel_rfl) ?_
    refine ls_pick_t (x := (.bool true)) (by kernel_rfl) (by rw [hb]; kernel_rfl) (by kernel_rfl) ?_
    refine ls_nil ?_
    refine then_normal ?_
    exact ⟨(fun i => ([undef, undef]).getD i undef), (.bool true), by kernel_rfl, HA, H⟩
  · rintro _ w ⟨D, x13, rfl, HA, H⟩
    refine ls_nil ?_
    refine then_normal ?_
    refine fr_eq (b := ⟨#[x0, x1, x2, undef, undef, undef, (.slice none 0 0), (.int .i64 0), x1, x9, x9, (D 0), (D 1), x13, undef, undef, undef, undef, undef, undef, undef, undef, undef, undef, undef, undef, undef, undef, undef, undef, undef, undef], []⟩) (by kernel_rfl) ?_
    refine wp_join (fun a w => ∃ (D_1 : Nat → Value) (x1_1 : Value) (h : Heap), a = ⟨#[x0, x1_1, x2, undef, undef, undef, (.slice none 0 0), (.int .i64 0), x1, x9, x9, (D 0), (D 1), x13, undef, undef, undef, undef, undef, undef, undef, undef, undef, undef, undef, undef, undef, undef, undef, undef, undef, undef], []⟩ ∧ At w0 w h ∧ opost_Byte_j1 R x0 x2 x1_1 h) ?_ ?_
    · refine wp_if rfl H (fun H => ?_) (fun H => ?_)
      · refine lwp_list ?_
        refine ls_assign (x := (.int .i64 0)) (by kernel_rfl) (by kernel_rfl) ?_
        refine ls_nil ?_
        exact ⟨(fun i => ([]).getD i undef), (.int .i64 0), h, by kernel_rfl, HA, H⟩
      · refine wp_skip ?_
        exact ⟨(fun i => ([]).getD i undef), x1, h, by kernel_rfl, HA, H⟩
    · rintro _ w_1 ⟨D_1, x1_1, h, rfl, HA_1, H⟩
      unfold opost_Byte_j1 at H
      refine then_normal ?_
      refine fr_eq (b := ⟨#[x0, x1_1, x2, undef, undef, undef, (.slice none 0 0), (.int .i64 0), x1, x9, x9, (D 0), (D 1), x13, undef, undef, undef, undef, undef, undef, undef, undef, undef, undef, undef, undef, undef, undef, undef, undef, undef, undef], []⟩) (by kernel_rfl) ?_
      refine wp_seq ?_
      refine wp_seq ?_
      refine lwp_list ?_
      refine ls_move (x := x0) (by kernel_rfl) (by kernel_rfl) ?_
      refine ls_p (d := some 15) (by kernel_rfl) (by kernel_rfl) (p_bits (by decide) (by kernel_rfl) (by kernel_rfl) H) (fun x15 H => ?_)
      refine ls_p (d := some 16) (by kernel_rfl) (by kernel_rfl) (p_sNe (by kernel_rfl) (by kernel_rfl) H) (fun x16 H => ?_)
      refine ls_nil ?_
      refine then_normal ?_
      refine fr_eq (b := ⟨#[x0, x1_1, x2, undef, undef, undef, (.slice none 0 0), (.int .i64 0), x1, x9, x9, (D 0), (D 1), x13, x0, x15, x16, undef, undef, undef, undef, undef, undef, undef, undef, undef, undef, undef, undef, undef, undef, undef], []⟩) (by kernel_rfl) ?_
      refine wp_if rfl H (fun H => ?_) (fun H => ?_)
      · refine wp_seq ?_
        refine lwp_list ?_
        refine ls_move (x := x0) (by kernel_rfl) (by kernel_rfl) ?_
        refine ls_move (x := x1_1) (by kernel_rfl) (by kernel_rfl) ?_
        refine ls_move (x := x2) (by kernel_rfl) (by kernel_rfl) ?_
        refine ls_d (d := some 20) (by kernel_rfl) (by kernel_rfl) HA_1 (d_call (by kernel_rfl) (by kernel_rfl) H) (fun x20 h_1 w_2 H HA_2 => ?_)
        refine ls_p (d := some 21) (by kernel_rfl) (by kernel_rfl) (p_tup (by kernel_rfl) H) (fun x21 H => ?_)
        refine ls_p (d := some 22) (by kernel_rfl) (by kernel_rfl) (p_tup (by kernel_rfl) H) (fun x22 H => ?_)
        refine ls_fr (b := ⟨#[x0, x1_1, x2, undef, undef, undef, (.slice none 0 0), (.int .i64 0), x1, x9, x9, (D 0), (D 1), x13, x0, x15, x16, x0, x1_1, x2, x20, x21, x22, undef, undef, undef, undef, undef, undef, undef, undef, undef], []⟩) (by kernel_rfl) ?_
        refine ls_assign (x := x21) (by kernel_rfl) (by kernel_rfl) ?_
        refine ls_assign (x := x22) (by kernel_rfl) (by kernel_rfl) ?_
        refine ls_nil ?_
        refine then_normal ?_
        refine fr_eq (b := ⟨#[x0, x1_1, x2, undef, undef, undef, x21, x22, x1, x9, x9, (D 0), (D 1), x13, x0, x15, x16, x0, x1_1, x2, x20, x21, x22, undef, undef, undef, undef, undef, undef, undef, undef, undef], []⟩) (by kernel_rfl) ?_
        refine wp_ret ?_
        refine then_ret ?_
        exact end2 (Try.results74) (by kernel_rfl) (by kernel_rfl) (by kernel_rfl) HA_2 H _ (.inr rfl)
      · refine wp_skip ?_
        refine then_normal ?_
        refine fr_eq (b := ⟨#[x0, x1_1, x2, undef, undef, undef, (.slice none 0 0), (.int .i64 0), x1, x9, x9, (D 0), (D 1), x13, x0, x15, x16, undef, undef, undef, undef, undef, undef, undef, undef, undef, undef, undef, undef, undef, undef, undef], []⟩) (by kernel_rfl) ?_
        refine wp_seq ?_
        refine lwp_list ?_
        refine ls_move (x := x1_1) (by kernel_rfl) (by kernel_rfl) ?_
        refine ls_move (x := x2) (by kernel_rfl) (by kernel_rfl) ?_
        refine ls_d (d := some 26) (by kernel_rfl) (by kernel_rfl) HA_1 (d_call (by kernel_rfl) (by kernel_rfl) H) (fun x26 h_2 w_3 H HA_3 => ?_)
        refine ls_move (x := x26) (by kernel_rfl) (by kernel_rfl) ?_
        refine ls_p (d := some 27) (by kernel_rfl) (by kernel_rfl) (p_tup (by kernel_rfl) H) (fun x27 H => ?_)
        refine ls_p (d := some 28) (by kernel_rfl) (by kernel_rfl) (p_tup (by kernel_rfl) H) (fun x28 H => ?_)
        refine ls_fr (b := ⟨#[x0, x1_1, x2, undef, undef, undef, (.slice none 0 0), (.int .i64 0), x1, x9, x9, (D 0), (D 1), x13, x0, x15, x16, undef, undef, undef, undef, undef, undef, x26, x1_1, x2, x26, x27, x28, undef, undef, undef], []⟩) (by kernel_rfl) ?_
        refine ls_assign (x := x28) (by kernel_rfl) (by kernel_rfl) ?_
        refine ls_nil ?_
        refine then_normal ?_
        refine fr_eq (b := ⟨#[x0, x1_1, x2, undef, undef, undef, (.slice none 0 0), x28, x1, x9, x9, (D 0), (D 1), x13, x0, x15, x16, undef, undef, undef, undef, undef, undef, x26, x1_1, x2, x26, x27, x28, undef, undef, undef], []⟩) (by kernel_rfl) ?_
        refine wp_seq ?_
        refine lwp_list ?_
        refine ls_move (x := x2) (by kernel_rfl) (by kernel_rfl) ?_
        refine ls_d (d := some 30) (by kernel_rfl) (by kernel_rfl) HA_3 (d_slit (zc := #[.int .u8 0]) Try.underlying30 Try.sizeOf5 (by decide) (.inr ⟨by decide, _, Try.zeroValue5, (by kernel_rfl)⟩) (by kernel_rfl) (by kernel_rfl) H) (fun x30 h_3 w_4 H HA_4 => ?_)
        refine ls_move (x := x28) (by kernel_rfl) (by kernel_rfl) ?_
        refine ls_assign (x := x30) (by kernel_rfl) (by kernel_rfl) ?_
        refine ls_assign (x := x28) (by kernel_rfl) (by kernel_rfl) ?_
        refine ls_nil ?_
        refine then_normal ?_
        refine fr_eq (b := ⟨#[x0, x1_1, x2, undef, undef, undef, x30, x28, x1, x9, x9, (D 0), (D 1), x13, x0, x15, x16, undef, undef, undef, undef, undef, undef, x26, x1_1, x2, x26, x27, x28, x2, x30, x28], []⟩) (by kernel_rfl) ?_
        refine wp_ret ?_
        exact end2 (Try.results74) (by kernel_rfl) (by kernel_rfl) (by kernel_rfl) HA_4 H _ (.inr rfl)

end Go.Proofs.Ytlcklnbgknhhkaa

end

section
/- bytes.Repeat of one byte, up to eight times. -/
set_option linter.unusedSimpArgs false
set_option linter.unusedVariables false
namespace Go.Proofs.Ytlcklnbgknhhkaa
open Go Go.HW

section
variable {h0 h : Heap} {F : List HP} {R : Value → Heap → Prop}
theorem ev_shr {k j : IntKind} {a b : Int} {K : Value → Prop} (hb : 0 ≤ b) : sShr k (.int k a) (.int j b) K = K (.int k (a.fdiv (2 ^ (min b.toNat k.bits)))) :=
  propext ⟨fun ⟨_, _, _, e1, e2, _, x⟩ => by cases e1; cases e2; exact x, fun x => ⟨_, _, _, rfl, rfl, hb, x⟩⟩
theorem mul_spec {n : Nat} (h1 : 1 ≤ n) (h8 : n ≤ 8) (H : R (.tuple #[.int .u64 0, .int .u64 n]) h) : math_bits_Mul_c (.int .u64 1) (.int .u64 n) h R := by
  apply math_bits_Mul_runs
  unfold math_bits_Mul_S
  apply math_bits_Mul64_runs
  unfold math_bits_Mul64_S
  rcases (show n = 1 ∨ n = 2 ∨ n = 3 ∨ n = 4 ∨ n = 5 ∨ n = 6 ∨ n = 7 ∨ n = 8 by omega) with rfl | rfl | rfl | rfl | rfl | rfl | rfl | rfl <;>
  · simp only [ev_bits, ev_shr (show (0 : Int) ≤ 32 by decide), ev_mul, ev_add]
    refine ⟨_, _, rfl, rfl, ⟨_, _, rfl, rfl, ?_⟩⟩
    exact H
theorem setAll_nil {l : List Int} {p : Nat} : setAll l p [] = l := rfl
theorem setAll_rep {c : Int} : ∀ (k : Nat) (l : List Int) (p : Nat), p + k ≤ l.length → l.take p = List.replicate p c → (setAll l p (List.replicate k c)).take (p + k) = List.replicate (p + k) c
  | 0, l, p, _, h => h
  | k + 1, l, p, hk, h => by
    rw [List.replicate_succ, setAll]
    have := setAll_rep k (l.set p c) (p + 1) (by rw [List.length_set]; omega) (by
      rw [List.take_succ_eq_append_getElem (by rw [List.length_set]; omega), List.take_set_of_le (Nat.le_refl _), h, List.getElem_set_self, List.replicate_succ'])
    rw [show p + (k + 1) = p + 1 + k by omega]
    exact this
theorem rep_spec {v : Value} {c : Int} {n : Nat} (h1 : 1 ≤ n) (h8 : n ≤ 8) (s : HW.Sep h0 (Sl (encI .u8) 1 v [c] :: F) h) (H : ∀ v' h', Cell1 v' → HW.Sep h0 (Sl (encI .u8) 1 v' (List.replicate n c) :: F) h' → R v' h') : bytes_Repeat_c v (.int .i64 n) h R := by
  apply bytes_Repeat_runs
  unfold bytes_Repeat_S
  rw [ev_eq, ev_if, if_neg (by simp; omega), ev_lt, ev_if, if_neg (by simp)]
  unfold bytes_Repeat_j1
  have q := s.seq
  rw [q.len, ev_conv, ev_conv]
  have w1 : IntKind.u64.wrap (([c].length : Nat) : Int) = 1 := by rw [wrap_u64]; rfl
  have w2 : IntKind.u64.wrap (n : Int) = n := by rw [wrap_u64]; omega
  rw [w1, w2]
  refine mul_spec h1 h8 ?_
  simp only [tup0, tup1, ev_gt, ev_or_p, ev_if]
  rw [if_neg (by simp; omega)]
  unfold bytes_Repeat_j2
  rw [ev_conv, wrap_i64 (by omega) (by omega), q.len, ev_eq, ev_if, if_neg (by simp), ev_gt, ev_if, if_neg (by simp; omega)]
  unfold bytes_Repeat_j3
  refine s.mknz3 n h1 (by omega) (fun v' l h1' cv hl hcut s1 => ?_)
  rw [← hcut]
  refine s1.copyT (encI_len .u8) (encI_cell .u8) s1.b1.seq (by omega) (by omega) (fun h2 s2 => ?_)
  rw [hcut]
  have e1 : ([c] : List Int).take (n - 0) = List.replicate 1 c := by rw [List.take_of_length_le (by simp; omega)]; rfl
  rw [e1] at s2
  have e2 : ((min [c].length (n - 0) : Nat) : Int) = ((1 : Nat) : Int) := by simp; omega
  rw [e2]
  refine ⟨fun t h' => ∃ (k : Nat) (L : List Int), (1 ≤ k ∧ k ≤ n) ∧ L.length = n ∧ L.take k = List.replicate k c ∧ t = .int .i64 k ∧ HW.Sep h0 (Sl (encI .u8) 1 v' L :: Sl (encI .u8) 1 v [c] :: F) h', fun t _ => match t with | .int _ k => (n - k).toNat | _ => 0, ⟨1, _, by omega, by rw [setAll_len]; exact hl, ?_, rfl, s2⟩, ?_⟩
  · have := setAll_rep (c := c) 1 l 0 (by omega) rfl
    exact this
  rintro _ h3 ⟨k, L, hk, hL, ht, rfl, s3⟩
  simp only []
  unfold bytes_Repeat_l4
  rw [ev_lt, ev_if]
  by_cases hlt : k < n
  · rw [if_pos (decide_eq_true (by omega)), ev_min, if_neg (by omega)]
    have q3 := s3.seq
    refine q3.slK (i := k) (j := n) (by omega) (by omega) ⟨.i64, rfl⟩ (by show bnd none _ n; simp only [bnd]; omega) ?_
    refine q3.slK (i := 0) (j := k) (by omega) (by omega) rfl ⟨.i64, rfl⟩ ?_
    have qs := q3.cutP (i := 0) (j := k) (by omega) (by omega)
    rw [List.drop_zero, ht] at qs
    refine s3.copyT (encI_len .u8) (encI_cell .u8) qs hlt (by omega) (fun h4 s4 => ?_)
    rw [List.take_replicate] at s4
    rw [List.length_replicate, ev_add, wrap_i64 (by omega) (by omega)]
    have hr := setAll_rep (c := c) (min (n - k) k) L k (by omega) ht
    refine ⟨⟨k + min (n - k) k, _, by omega, by rw [setAll_len]; exact hL, hr, ?_, s4⟩, by simp only; omega⟩
    rw [Int.natCast_add, Nat.min_comm]
  · have : k = n := by omega
    subst this
    rw [if_neg (by simp)]
    rw [List.take_of_length_le (by omega)] at ht
    rw [ht] at s3
    exact H v' h3 cv s3.drop1
end
def tabTo (col : Int) : Int := col - col % 8 + 8
def clamp (col : Int) : Int := if col < 0 ∨ col > 1073741824 then 0 else col
theorem clamp_rng (col : Int) : 0 ≤ clamp col ∧ clamp col ≤ 1073741824 := by unfold clamp; split <;> omega
theorem clamp_id {col : Int} (h : 0 ≤ col ∧ col ≤ 1073741824) : clamp col = col := by unfold clamp; rw [if_neg (by omega)]
/-- What is written of a byte, and the column behind it. -/
def postL (o col c : Int) : List Int × Int :=
  if (c == 13 && hasB o 4 || c == 10) = true then (if hasB o 2 = true then ([13, 10], 0) else ([10], if hasB o 16 = true then 0 else col))
  else if (c == 13 && col == 0 && hasB o 8) = true then ([], 0)
  else if (c == 13) = true then ([13], 0)
  else if (c == 9 && hasB o 32) = true then (List.replicate (tabTo col - col).toNat 32, tabTo col)
  else if (c == 9) = true then ([9], tabTo col)
  else if (c == 8) = true then ([8], if col - 1 < 0 then 0 else col - 1)
  else if (decide (c < 32) || c == 127 || (decide (128 ≤ c) && decide (c < 192))) = true then ([c], col)
  else ([c], col + 1)
theorem tab_rng {col : Int} : col < tabTo col ∧ tabTo col ≤ col + 8 := by unfold tabTo; omega
theorem postL_rng {o col c : Int} (h : 0 ≤ col) : 0 ≤ (postL o col c).2 ∧ (postL o col c).2 ≤ col + 8 ∧ (postL o col c).1.length ≤ 8 := by
  have t := tab_rng (col := col)
  unfold postL
  repeat' split
  all_goals simp only [List.length_cons, List.length_nil, List.length_replicate]
  all_goals omega
def byteL (o col c : Int) : List Int × Int := if hasB o 1 = true then postL o (clamp col) c else ([c], (postL 1 (clamp col) c).2)
theorem byteL_rng {o col c : Int} : 0 ≤ (byteL o col c).2 ∧ (byteL o col c).2 ≤ 1073741832 ∧ (byteL o col c).1.length ≤ 8 := by
  have r := clamp_rng col
  have p1 := postL_rng (o := o) (c := c) r.1
  have p2 := postL_rng (o := 1) (c := c) r.1
  unfold byteL
  split
  · omega
  · simp only [List.length_cons, List.length_nil]; omega
def goL (o : Int) : Int → List Int → List Int × Int
  | col, [] => ([], col)
  | col, c :: s => ((byteL o col c).1 ++ (goL o (byteL o col c).2 s).1, (goL o (byteL o col c).2 s).2)
def bytesL (o col : Int) (s : List Int) : List Int × Int := goL o (clamp col) s
theorem goL_app {o : Int} : ∀ (a b : List Int) (col : Int), goL o col (a ++ b) = ((goL o col a).1 ++ (goL o (goL o col a).2 b).1, (goL o (goL o col a).2 b).2)
  | [], b, col => rfl
  | c :: a, b, col => by
    rw [List.cons_append, goL, goL_app a b, goL]
    simp only [List.append_assoc]
theorem goL_len {o : Int} : ∀ (s : List Int) (col : Int), (goL o col s).1.length ≤ 8 * s.length
  | [], _ => Nat.zero_le _
  | c :: s, col => by
    have h1 := goL_len (o := o) s (byteL o col c).2
    have h2 := (byteL_rng (o := o) (col := col) (c := c)).2.2
    rw [goL, List.length_append, List.length_cons]; omega
theorem goL_rng {o : Int} : ∀ (s : List Int) (col : Int), 0 ≤ col → col ≤ 1073741832 → 0 ≤ (goL o col s).2 ∧ (goL o col s).2 ≤ 1073741832
  | [], col, h, h' => ⟨h, h'⟩
  | c :: s, col, _, _ => by
    have h2 := byteL_rng (o := o) (col := col) (c := c)
    rw [goL]; exact goL_rng s _ h2.1 h2.2.1
theorem goL_snoc {o col x : Int} (s : List Int) : goL o col (s ++ [x]) = ((goL o col s).1 ++ (byteL o (goL o col s).2 x).1, (byteL o (goL o col s).2 x).2) := by
  rw [goL_app]; simp [goL]

section
variable {h0 h : Heap} {F : List HP} {R : Value → Heap → Prop}
theorem stop_spec {col : Int} (hc : 0 ≤ col ∧ col ≤ 1073741824) (H : R (.int .i64 (tabTo col)) h) : opost_stop_c (.int .i64 col) h R := by
  apply opost_stop_runs
  unfold opost_stop_S
  rw [ev_rem (by decide), Int.tmod_eq_emod_of_nonneg hc.1, ev_sub, wrap_i64 (by omega) (by omega), ev_add, wrap_i64 (by omega) (by omega)]
  exact H
theorem j1p {c n : Int} (s : HW.Sep h0 F h) (H : ∀ v' h', Cell1 v' → HW.Sep h0 (Sl (encI .u8) 1 v' [c] :: F) h' → R (.tuple #[v', .int .i64 n]) h') : opost_post_j1 R (.int .i64 n) (.int .u8 c) h := by
  unfold opost_post_j1
  exact s.slit (enc := encI .u8) (sz := 1) (encI_len .u8) [c] rfl ⟨rfl, Nat.le_of_ble_eq_true rfl, rfl⟩ (fun v h1 cv s1 => H v h1 cv s1)
theorem j2p {o col : Int} (s : HW.Sep h0 F h) (H : ∀ v' h', Cell1 v' → HW.Sep h0 (Sl (encI .u8) 1 v' (if hasB o 2 = true then ([13, 10], 0) else ([10], if hasB o 16 = true then 0 else col) : List Int × Int).1 :: F) h' → R (.tuple #[v', .int .i64 (if hasB o 2 = true then ([13, 10], 0) else ([10], if hasB o 16 = true then 0 else col) : List Int × Int).2]) h') : opost_post_j2 R (.int .i64 o) (.int .i64 col) (.int .u8 10) h := by
  unfold opost_post_j2
  rw [bits_has, ev_if]
  cases h2 : hasB o 2 with
  | true =>
    rw [h2] at H
    rw [if_pos rfl]
    exact s.slit (enc := encI .u8) (sz := 1) (encI_len .u8) [13, 10] rfl ⟨rfl, Nat.le_of_ble_eq_true rfl, rfl, Nat.le_of_ble_eq_true rfl, rfl⟩ (fun v h1 cv s1 => H v h1 cv s1)
  | false =>
    rw [h2] at H
    rw [if_neg (by decide), bits_has, ev_if]
    cases h16 : hasB o 16 with
    | true => rw [h16] at H; rw [if_pos rfl]; exact j1p s H
    | false => rw [h16] at H; rw [if_neg (by decide)]; exact j1p s H
theorem and_has {x : Bool} {o k : Int} {K : Value → Prop} : sAnd (.bool x) (fun k_6 => sBits .and .i64 (.int .i64 o) (.int .i64 k) fun x13 => sNe x13 (.int .i64 0) fun x14 => k_6 x14) K = K (.bool (x && hasB o k)) := by
  rw [ev_and]; cases x
  · rfl
  · rw [if_pos rfl, bits_has]; rfl
theorem and_eq {x : Bool} {k : IntKind} {a b : Int} {K : Value → Prop} : sAnd (.bool x) (fun k_6 => sEq (.int k a) (.int k b) fun x14 => k_6 x14) K = K (.bool (x && a == b)) := by
  rw [ev_and]; cases x
  · rfl
  · rw [if_pos rfl, ev_eq]; rfl
theorem post_spec {o col c : Int} (hcol : 0 ≤ col ∧ col ≤ 1073741824) (s : HW.Sep h0 F h) (H : ∀ v' h', Cell1 v' → HW.Sep h0 (Sl (encI .u8) 1 v' (postL o col c).1 :: F) h' → R (.tuple #[v', .int .i64 (postL o col c).2]) h') : opost_post_c (.int .i64 o) (.int .i64 col) (.int .u8 c) h R := by
  apply opost_post_runs
  unfold opost_post_S
  unfold postL at H
  rw [ev_eq, and_has, ev_if]
  cases h1 : (c == 13 && hasB o 4) with
  | true =>
    rw [h1, Bool.true_or, if_pos rfl] at H
    rw [if_pos rfl]
    exact j2p s H
  | false =>
    rw [h1, Bool.false_or] at H
    rw [if_neg (by decide), ev_eq, ev_if]
    cases h2 : (c == 10) with
    | true =>
      rw [h2, if_pos rfl] at H
      rw [if_pos rfl]
      have : c = 10 := by simpa using h2
      subst this
      exact j2p s H
    | false =>
      rw [h2, if_neg (by decide)] at H
      rw [if_neg (by decide), ev_eq, and_eq, and_has, ev_if]
      cases h3 : (c == 13 && col == 0 && hasB o 8) with
      | true =>
        rw [h3, if_pos rfl] at H
        rw [if_pos rfl]
        exact H _ h trivial (sep_nil s)
      | false =>
        rw [h3, if_neg (by decide)] at H
        rw [if_neg (by decide), ev_eq, ev_if]
        cases h4 : (c == 13) with
        | true =>
          rw [h4, if_pos rfl] at H
          rw [if_pos rfl]
          have : c = 13 := by simpa using h4
          subst this
          exact j1p s H
        | false =>
          rw [h4, if_neg (by decide)] at H
          rw [if_neg (by decide), ev_eq, and_has, ev_if]
          cases h5 : (c == 9 && hasB o 32) with
          | true =>
            rw [h5, if_pos rfl] at H
            rw [if_pos rfl]
            have t := tab_rng (col := col)
            refine s.slit (enc := encI .u8) (sz := 1) (encI_len .u8) [32] rfl ⟨rfl, Nat.le_of_ble_eq_true rfl, rfl⟩ (fun v h1 cv s1 => ?_)
            refine stop_spec hcol ?_
            rw [ev_sub, wrap_i64 (by omega) (by omega)]
            obtain ⟨n, hn⟩ : ∃ n : Nat, tabTo col - col = n := ⟨(tabTo col - col).toNat, by omega⟩
            rw [hn] at H ⊢
            rw [Int.toNat_natCast] at H
            refine rep_spec (by omega) (by omega) s1 (fun v' h2 cv' s2 => ?_)
            refine stop_spec hcol ?_
            exact H v' h2 cv' s2
          | false =>
            rw [h5, if_neg (by decide)] at H
            rw [if_neg (by decide), ev_eq, ev_if]
            cases h6 : (c == 9) with
            | true =>
              rw [h6, if_pos rfl] at H
              rw [if_pos rfl]
              have : c = 9 := by simpa using h6
              subst this
              refine stop_spec hcol ?_
              exact j1p s H
            | false =>
              rw [h6, if_neg (by decide)] at H
              rw [if_neg (by decide), ev_eq, ev_if]
              cases h7 : (c == 8) with
              | true =>
                rw [h7, if_pos rfl] at H
                rw [if_pos rfl]
                have : c = 8 := by simpa using h7
                subst this
                rw [ev_sub, wrap_i64 (by omega) (by omega), ev_max]
                exact j1p s H
              | false =>
                rw [h7, if_neg (by decide)] at H
                rw [if_neg (by decide)]
                simp only [ev_lt, ev_eq, ev_ge, ev_and_p, ev_or_p, ev_if, ge_iff_le]
                split
                · rename_i h8
                  rw [if_pos h8] at H
                  exact j1p s H
                · rename_i h8
                  rw [if_neg h8] at H
                  rw [ev_add, wrap_i64 (by omega) (by omega)]
                  exact j1p s H
theorem obyte_j1 {o col c : Int} (hcol : 0 ≤ col ∧ col ≤ 1073741824) (s : HW.Sep h0 F h) (H : ∀ v' h', Cell1 v' → HW.Sep h0 (Sl (encI .u8) 1 v' (byteL o col c).1 :: F) h' → R (.tuple #[v', .int .i64 (byteL o col c).2]) h') : opost_Byte_j1 R (.int .i64 o) (.int .u8 c) (.int .i64 col) h := by
  unfold opost_Byte_j1
  unfold byteL at H
  rw [clamp_id hcol] at H
  rw [bits_has, ev_if]
  cases h1 : hasB o 1 with
  | true =>
    rw [h1, if_pos rfl] at H
    rw [if_pos rfl]
    refine post_spec hcol s (fun v h1 cv s1 => ?_)
    rw [tup0, tup1]
    exact H v h1 cv s1
  | false =>
    rw [h1, if_neg (by decide)] at H
    rw [if_neg (by decide)]
    refine post_spec hcol s (fun v h1 cv s1 => ?_)
    rw [tup0, tup1]
    exact s1.slit (enc := encI .u8) (sz := 1) (encI_len .u8) [c] rfl ⟨rfl, Nat.le_of_ble_eq_true rfl, rfl⟩ (fun v' h2 cv' s2 => H v' h2 cv' s2.drop1)
theorem byte_clamp {o col c : Int} : byteL o (clamp col) c = byteL o col c := by unfold byteL; rw [clamp_id (clamp_rng col)]
theorem obyte_spec {o col c : Int} (s : HW.Sep h0 F h) (H : ∀ v' h', Cell1 v' → HW.Sep h0 (Sl (encI .u8) 1 v' (byteL o col c).1 :: F) h' → R (.tuple #[v', .int .i64 (byteL o col c).2]) h') : opost_Byte_c (.int .i64 o) (.int .i64 col) (.int .u8 c) h R := by
  apply opost_Byte_runs
  unfold opost_Byte_S
  simp only [ev_lt, ev_gt, ev_or_p, ev_if]
  rw [← byte_clamp] at H
  have r := clamp_rng col
  unfold clamp at H r
  by_cases hc : col < 0 ∨ col > 1073741824
  · rw [if_pos hc] at H
    rw [if_pos (by simp; omega)]
    exact obyte_j1 (by omega) s H
  · rw [if_neg hc] at H
    rw [if_neg (by simp; omega)]
    exact obyte_j1 (by omega) s H
end
end Go.Proofs.Ytlcklnbgknhhkaa

end

section
/- The shallow reading of one function, and that the function does it. Written by a program. -/
set_option linter.unusedVariables false
namespace Go.Proofs.Ytlcklnbgknhhkaa
open Go Go.HW

def ldisc_Disc_Setting_S (x0 : Value) (h : Heap) (R : Value → Heap → Prop) : Prop :=
  sNew h #[.int .i64 0, .int .i64 0, .int .i64 0, .int .i64 0, .int .i64 0, .int .i64 0, .int .i64 0, .int .i64 0, .int .i64 0, .int .i64 0, .int .i64 0, .int .i64 0, .int .i64 0, .int .i64 0, .int .i64 0, .int .i64 0, .int .i64 0] 28 fun x2 h => 
  sNil x0 fun x4 =>
  sOff x4 0 fun x5 =>
  sLdN h x5 17 fun x6 =>
  sStN h x2 x6 17 fun h_1 => 
  sLdN h_1 x2 17 fun r2 =>
  R r2 h_1
set_option maxRecDepth 100000 in
theorem ldisc_Disc_Setting_runs {x0 : Value} {h : Heap} {R : Value → Heap → Prop} (H : ldisc_Disc_Setting_S x0 h R) : ldisc_Disc_Setting_c x0 h R := by
  unfold ldisc_Disc_Setting_S at H
  refine runs_of (b := ⟨#[x0, undef, undef, undef, undef, undef, undef], []⟩) Try.call29 Try.func29 rfl (by kernel_rfl) (fun w0 HA => ?_)
  refine wp_seq ?_
  refine lwp_list ?_
  refine ls_d (d := some 2) (by kernel_rfl) (by kernel_rfl) HA (d_alloc Try.zeroValue28 H) (fun x2 h w H HA => ?_)
  refine ls_nil ?_
  refine then_normal ?_
  refine fr_eq (b := ⟨#[x0, undef, x2, undef, undef, undef, undef], []⟩) (by kernel_rfl) ?_
  refine wp_seq ?_
  refine lwp_list ?_
  refine ls_move (x := x0) (by kernel_rfl) (by kernel_rfl) ?_
  refine ls_p (d := some 4) (by kernel_rfl) (by kernel_rfl) (p_nil (by kernel_rfl) H) (fun x4 H => ?_)
  refine ls_p (d := some 5) (by kernel_rfl) (by kernel_rfl) (p_off Try.underlying72 rfl (fun w => ⟨_, Try.sizeOf28 w⟩) rfl (by kernel_rfl) H) (fun x5 H => ?_)
  refine ls_y (d := some 6) (by kernel_rfl) (by kernel_rfl) HA (y_ldn Try.isAgg28 Try.sizeOf28 (by kernel_rfl) H) (fun x6 H => ?_)
  refine ls_d (d := none) (by kernel_rfl) (by kernel_rfl) HA (d_stn Try.sizeOf28 (by kernel_rfl) (by kernel_rfl) H) (fun _ h_1 w_1 H HA_1 => ?_)
  refine ls_nil ?_
  refine then_normal ?_
  refine fr_eq (b := ⟨#[x0, undef, x2, x0, x4, x5, x6], []⟩) (by kernel_rfl) ?_
  refine wp_ret ?_
  obtain ⟨r2, hr2, H⟩ := ld_n Try.isAgg28 Try.sizeOf28 H
  exact endR (vs := [r2]) (Try.results29) (by kernel_rfl) ⟨⟨_, (by kernel_rfl), hr2⟩, trivial⟩ HA_1 H _ (.inr rfl)

end Go.Proofs.Ytlcklnbgknhhkaa

end
