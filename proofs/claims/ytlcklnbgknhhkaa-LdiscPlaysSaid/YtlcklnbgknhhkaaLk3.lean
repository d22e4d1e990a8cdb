/- Texts in one. -/
import Derived.Test.YtlcklnbgknhhkaaFnC
import Derived.Test.YtlcklnbgknhhkaaHwU
import Derived.Test.YtlcklnbgknhhkaaLk2
section
/- Slices of blocks that nobody writes any more. -/
set_option linter.unusedSimpArgs false
set_option linter.unusedVariables false
namespace Go.Proofs.Ytlcklnbgknhhkaa
open Go Go.HW

theorem seq_keep {h h' : Heap} {v : Value} {l : List Int} (a : Seq (encI .u8) 1 h v l) (e : ∀ b o n m, v = .slice (some ⟨b, o, none⟩) n m → l ≠ [] → h'[b]? = h[b]?) : Seq (encI .u8) 1 h' v l := by
  obtain ⟨a, n, m, rfl, hn, hm, h0 | ⟨b, o, rfl, hb, hc⟩⟩ := a
  · exact ⟨_, _, _, rfl, hn, hm, .inl h0⟩
  · by_cases hl : l = []
    · subst hl; exact ⟨_, _, _, rfl, hn, hm, .inl hn.symm⟩
    · have e := e b o n m rfl hl
      have hs : b < h'.size := by
        rw [Array.getElem?_eq_getElem hb] at e
        exact (Array.getElem?_eq_some_iff.1 e).1
      refine ⟨_, _, _, rfl, hn, hm, .inr ⟨b, o, rfl, hs, fun j x hj i u hu => ?_⟩⟩
      have := hc j x hj i u hu
      unfold Heap.at at this ⊢
      rw [e]; exact this
def inS (s : Nat → Prop) (h : Heap) (v : Value) (l : List Int) : Prop := Seq (encI .u8) 1 h v l ∧ (l ≠ [] → ∃ b o n m, v = .slice (some ⟨b, o, none⟩) n m ∧ s b)
def frz (L : List (Value × List Int)) : HP where
  P s h := (∀ b, s b → b < h.size) ∧ ∀ x ∈ L, inS s h x.1 x.2
  loc := fun {s h h'} p e => ⟨fun b hb => by
      have e := e b hb
      rw [Array.getElem?_eq_getElem (p.1 b hb)] at e
      exact (Array.getElem?_eq_some_iff.1 e).1, fun x hx => ⟨seq_keep (p.2 x hx).1 (fun b o n m hv hl => by
      obtain ⟨b', o', n', m', hv', hs⟩ := (p.2 x hx).2 hl
      rw [hv] at hv'
      cases hv'
      exact e b hs), (p.2 x hx).2⟩⟩
  dom := fun p => p.1
theorem add_block (x : Addr) (k : Nat) : (x.add k).block = x.block := by unfold Addr.add; repeat' split <;> rfl

section
variable {h0 h : Heap} {F : List HP} {L L' : List (Value × List Int)}
theorem frz_nil (s : HW.Sep h0 F h) : HW.Sep h0 (frz [] :: F) h :=
  s.add1 (A := frz []) ⟨⟨fun _ => False, ⟨fun _ => False, fun _ => False, ⟨fun _ h => h.elim, fun x hx => by simp at hx⟩, fun _ h => h, fun _ _ h => h, fun b => by simp⟩, fun _ h => h.elim⟩, Ext.refl h⟩
theorem frz_seq {v : Value} {l : List Int} (s : HW.Sep h0 (frz L :: F) h) (hx : (v, l) ∈ L) : Seq (encI .u8) 1 h v l := let ⟨_, p, _⟩ := s.head; (p.2 _ hx).1
theorem frz_sub (s : HW.Sep h0 (frz L :: F) h) (H : ∀ x ∈ L', x ∈ L) : HW.Sep h0 (frz L' :: F) h := s.conv fun _ p => ⟨p.1, fun x hx => p.2 x (H x hx)⟩
theorem frz_nilv (s : HW.Sep h0 (frz L :: F) h) : HW.Sep h0 (frz ((.slice none 0 0, []) :: L) :: F) h :=
  s.conv fun t p => ⟨p.1, fun x hx => by
    rw [List.mem_cons] at hx
    rcases hx with rfl | hx
    · exact ⟨⟨none, 0, 0, rfl, rfl, Nat.le_refl _, .inl rfl⟩, fun h => (h rfl).elim⟩
    · exact p.2 x hx⟩
theorem frz_cut {v : Value} {l : List Int} {i j : Nat} (s : HW.Sep h0 (frz L :: F) h) (hx : (v, l) ∈ L) (hi : i ≤ j) (hj : j ≤ l.length) : HW.Sep h0 (frz ((HW.cutP v i j 1, (l.take j).drop i) :: L) :: F) h :=
  s.conv fun t p => ⟨p.1, fun x hx' => by
    rw [List.mem_cons] at hx'
    rcases hx' with rfl | hx'
    · obtain ⟨q, w⟩ := p.2 _ hx
      refine ⟨q.cutP hi hj, fun hne => ?_⟩
      have hl : l ≠ [] := by intro e; subst e; simp at hne
      obtain ⟨b, o, n, m, rfl, hs⟩ := w hl
      simp only [HW.cutP, cutV]
      split
      · exact ⟨b, o, _, _, rfl, hs⟩
      · have hb := add_block ⟨b, o, none⟩ (i * 1)
        have q2 := q.cutP hi hj
        simp only [HW.cutP, cutV] at q2
        rename_i hmi
        rw [if_neg hmi] at q2
        obtain ⟨a, n', m', e, hn, hm, h2 | ⟨b', o', e', _, _⟩⟩ := q2
        · exact (hne (List.eq_nil_of_length_eq_zero (hn.trans h2))).elim
        · cases e
          simp only [Option.map_some, Option.some.injEq] at e' ⊢
          rw [e'] at hb
          simp only at hb
          subst hb
          exact ⟨b', o', _, _, by rw [e'], hs⟩
    · exact p.2 x hx'⟩
theorem frz_add {v : Value} {l : List Int} (s : HW.Sep h0 (frz L :: Sl (encI .u8) 1 v l :: F) h) : HW.Sep h0 (frz ((v, l) :: L) :: F) h := by
  have s2 : HW.Sep h0 (HP.all [frz L, Sl (encI .u8) 1 v l] :: F) h := Sep.shut_all (L := [_, _]) s
  refine s2.conv fun t ⟨s1, s2, a, ⟨s3, s4, ⟨k, o, hk⟩, e4, _, u2⟩, _, u⟩ => ⟨fun b hb => ?_, fun x hx => ?_⟩
  · rcases (u b).1 hb with h1 | h1
    · exact a.1 b h1
    · rcases (u2 b).1 h1 with h2 | h2
      · exact o.lt ((hk b).1 h2).symm
      · exact (e4 b h2).elim
  · rw [List.mem_cons] at hx
    rcases hx with rfl | hx
    · refine ⟨o.seq, fun hl => ?_⟩
      rcases o with ⟨_, _, e⟩ | ⟨b, p, n, m, c, t', e, rfl, _⟩
      · exact (hl e).elim
      · exact ⟨b, p, n, m, rfl, (u b).2 (.inr ((u2 b).2 (.inl ((hk b).2 e.symm))))⟩
    · obtain ⟨q, w⟩ := a.2 x hx
      refine ⟨q, fun hl => ?_⟩
      obtain ⟨b, o', n, m, hv, hs⟩ := w hl
      exact ⟨b, o', n, m, hv, (u b).2 (.inl hs)⟩
end
end Go.Proofs.Ytlcklnbgknhhkaa

end

section
/- The shallow reading of one function, and that the function does it. Written by a program. -/
set_option linter.unusedVariables false
namespace Go.Proofs.Ytlcklnbgknhhkaa
open Go Go.HW

def betonyref18_Disc_All_l1 (R : Value → Heap → Prop) (x0 : Value) (next : Value → Value → Heap → Prop) (x3 x4 : Value) (h_2 : Heap) : Prop :=
  sNil x0 fun x13 =>
  sOff x13 18 fun x14 =>
  sLd h_2 x14 fun x15 =>
  sLen x15 fun x16 =>
  sLt x4 x16 fun x17 =>
  sIf x17 (sNil x0 fun x22 =>
  sOff x22 18 fun x23 =>
  sLd h_2 x23 fun x24 =>
  sIxS x24 x4 1 fun x26 =>
  sLd h_2 x26 fun x27 =>
  sApp h_2 x3 x27 #[.int .u8 0] 5 1 fun x28 h_3 => 
  sAdd .i64 x4 (.int .i64 1) fun x19 =>
  next x28 x19 h_3) (sNil x0 fun x31 =>
  sOff x31 17 fun x32 =>
  sLd h_2 x32 fun x33 =>
  sApp h_2 x3 x33 #[.int .u8 0] 5 1 fun x34 h_4 => 
  R x34 h_4)
def betonyref18_Disc_All_S (x0 : Value) (h : Heap) (R : Value → Heap → Prop) : Prop :=
  sSlit h #[] [] 5 0 fun x5 h => 
  sNil x0 fun x7 =>
  sOff x7 19 fun x8 =>
  sLd h x8 fun x9 =>
  sApp h x5 x9 #[.int .u8 0] 5 1 fun x10 h_1 => 
  sLoop (S := Value × Value) (fun nxt s h => betonyref18_Disc_All_l1 R x0 (fun x3' x4' h => nxt (x3', x4') h) s.1 s.2 h) (x10, (.int .i64 0)) h_1
set_option maxRecDepth 100000 in
theorem betonyref18_Disc_All_runs {x0 : Value} {h : Heap} {R : Value → Heap → Prop} (H : betonyref18_Disc_All_S x0 h R) : betonyref18_Disc_All_c x0 h R := by
 unfold betonyref18_Disc_All_S at H
 refine runs_of (b := ⟨#[x0, ud, ud, ud, ud, ud, ud, ud, ud, ud, ud, ud, ud, ud, ud, ud, ud, ud, ud, ud, ud, ud, ud, ud, ud, ud, ud, ud, ud, ud, ud, ud, ud, ud, ud], []⟩) Try.call56 Try.func56 rfl (by kernel_rfl) (fun w0 HA => ?_)
 refine wp_seq (lwp_list ?_)
 refine ls_assign (x := (.slice none 0 0)) (by kernel_rfl) (by kernel_rfl) ?_
 refine ls_nil (then_normal ?_)
 refine fr_eq (b := ⟨#[x0, ud, (.slice none 0 0), ud, ud, ud, ud, ud, ud, ud, ud, ud, ud, ud, ud, ud, ud, ud, ud, ud, ud, ud, ud, ud, ud, ud, ud, ud, ud, ud, ud, ud, ud, ud, ud], []⟩) (by kernel_rfl) ?_
 refine wp_seq (lwp_list ?_)
 refine ls_d (d := some 5) (by kernel_rfl) (by kernel_rfl) HA (d_slit (zc := #[]) Try.underlying30 Try.sizeOf5 (by decide) (.inl ⟨(by kernel_rfl), (by kernel_rfl)⟩) (by kernel_rfl) (by kernel_rfl) H) (fun x5 h w H HA => ?_)
 refine ls_move (x := x0) (by kernel_rfl) (by kernel_rfl) ?_
 refine ls_p (d := some 7) (by kernel_rfl) (by kernel_rfl) (p_nil (by kernel_rfl) H) (fun x7 H => ?_)
 refine ls_p (d := some 8) (by kernel_rfl) (by kernel_rfl) (p_off Try.underlying48 rfl (fun w => ⟨_, Try.sizeOf30 w⟩) rfl (by kernel_rfl) H) (fun x8 H => ?_)
 refine ls_y (d := some 9) (by kernel_rfl) (by kernel_rfl) HA (y_ld Try.isAgg30 (by kernel_rfl) H) (fun x9 H => ?_)
 refine ls_d (d := some 10) (by kernel_rfl) (by kernel_rfl) HA (d_app (z := #[.int .u8 0]) Try.underlying30 Try.underlying30 (.inl ⟨_, rfl⟩) Try.typeInfo5 (by kernel_rfl) Try.sizeOf5 Try.zeroValue5 (by kernel_rfl) (by kernel_rfl) (by kernel_rfl) H) (fun x10 h_1 w_1 H HA_1 => ?_)
 refine ls_fr (b := ⟨#[x0, ud, (.slice none 0 0), ud, ud, x5, x0, x7, x8, x9, x10, ud, ud, ud, ud, ud, ud, ud, ud, ud, ud, ud, ud, ud, ud, ud, ud, ud, ud, ud, ud, ud, ud, ud, ud], []⟩) (by kernel_rfl) ?_
 refine ls_assign (x := x10) (by kernel_rfl) (by kernel_rfl) ?_
 refine ls_nil (then_normal ?_)
 refine fr_eq (b := ⟨#[x0, ud, (.slice none 0 0), x10, ud, x5, x0, x7, x8, x9, x10, ud, ud, ud, ud, ud, ud, ud, ud, ud, ud, ud, ud, ud, ud, ud, ud, ud, ud, ud, ud, ud, ud, ud, ud], []⟩) (by kernel_rfl) ?_
 refine wp_seq ?_
 refine wp_seq (lwp_list ?_)
 refine ls_assign (x := (.int .i64 0)) (by kernel_rfl) (by kernel_rfl) ?_
 refine ls_nil (then_normal ?_)
 refine fr_eq (b := ⟨#[x0, ud, (.slice none 0 0), x10, (.int .i64 0), x5, x0, x7, x8, x9, x10, ud, ud, ud, ud, ud, ud, ud, ud, ud, ud, ud, ud, ud, ud, ud, ud, ud, ud, ud, ud, ud, ud, ud, ud], []⟩) (by kernel_rfl) ?_
 refine wp_block ?_
 obtain ⟨I, m, H0, HB⟩ := H
 refine wp_loop (fun a w => ∃ (D : Nat → Value) (x3 x4 : Value) (h_2 : Heap), a = ⟨#[x0, ud, (.slice none 0 0), x3, x4, x5, x0, x7, x8, x9, x10, (D 0), (D 1), (D 2), (D 3), (D 4), (D 5), (D 6), (D 7), (D 8), (D 9), (D 10), (D 11), (D 12), (D 13), (D 14), (D 15), (D 16), (D 17), ud, ud, ud, ud, ud, ud], []⟩ ∧ At w0 w h_2 ∧ I (x3, x4) h_2) (fun a w => m ((a.tmps.getD 3 ud), (a.tmps.getD 4 ud)) w.heap) ?_ ?_
 ·exact ⟨(fun i => (Ap [] 18).getD i ud), x10, (.int .i64 0), h_1, by kernel_rfl, HA_1, H0⟩
 ·rintro _ w_2 ⟨D, x3, x4, h_2, rfl, HA_2, HI⟩
  have H : betonyref18_Disc_All_l1 R x0 (fun x3' x4' h' => I (x3', x4') h' ∧ m (x3', x4') h' < m (x3, x4) h_2) x3 x4 h_2 := HB (x3, x4) h_2 HI
  clear HB H0 HI
  unfold betonyref18_Disc_All_l1 at H
  refine wp_seq ?_
  refine wp_seq (lwp_list ?_)
  refine ls_move (x := x4) (by kernel_rfl) (by kernel_rfl) ?_
  refine ls_move (x := x0) (by kernel_rfl) (by kernel_rfl) ?_
  refine ls_p (d := some 13) (by kernel_rfl) (by kernel_rfl) (p_nil (by kernel_rfl) H) (fun x13 H => ?_)
  refine ls_p (d := some 14) (by kernel_rfl) (by kernel_rfl) (p_off Try.underlying48 rfl (fun w => ⟨_, Try.sizeOf22 w⟩) rfl (by kernel_rfl) H) (fun x14 H => ?_)
  refine ls_y (d := some 15) (by kernel_rfl) (by kernel_rfl) HA_2 (y_ld Try.isAgg22 (by kernel_rfl) H) (fun x15 H => ?_)
  refine ls_p (d := some 16) (by kernel_rfl) (by kernel_rfl) (p_len Try.underlying22 (by kernel_rfl) H) (fun x16 H => ?_)
  refine ls_fr (b := ⟨#[x0, ud, (.slice none 0 0), x3, x4, x5, x0, x7, x8, x9, x10, x4, x0, x13, x14, x15, x16, (D 6), (D 7), (D 8), (D 9), (D 10), (D 11), (D 12), (D 13), (D 14), (D 15), (D 16), (D 17), ud, ud, ud, ud, ud, ud], []⟩) (by kernel_rfl) ?_
  refine ls_p (d := some 17) (by kernel_rfl) (by kernel_rfl) (p_sLt (by kernel_rfl) (by kernel_rfl) H) (fun x17 H => ?_)
  refine ls_nil (then_normal ?_)
  refine fr_eq (b := ⟨#[x0, ud, (.slice none 0 0), x3, x4, x5, x0, x7, x8, x9, x10, x4, x0, x13, x14, x15, x16, x17, (D 7), (D 8), (D 9), (D 10), (D 11), (D 12), (D 13), (D 14), (D 15), (D 16), (D 17), ud, ud, ud, ud, ud, ud], []⟩) (by kernel_rfl) ?_
  refine wp_if rfl H (fun H => ?_) (fun H => ?_)
  ·refine wp_skip ?_
   refine then_normal ?_
   refine fr_eq (b := ⟨#[x0, ud, (.slice none 0 0), x3, x4, x5, x0, x7, x8, x9, x10, x4, x0, x13, x14, x15, x16, x17, (D 7), (D 8), (D 9), (D 10), (D 11), (D 12), (D 13), (D 14), (D 15), (D 16), (D 17), ud, ud, ud, ud, ud, ud], []⟩) (by kernel_rfl) ?_
   refine wp_seq ?_
   refine wp_block ?_
   refine lwp_list ?_
   refine ls_move (x := x3) (by kernel_rfl) (by kernel_rfl) ?_
   refine ls_move (x := x0) (by kernel_rfl) (by kernel_rfl) ?_
   refine ls_p (d := some 22) (by kernel_rfl) (by kernel_rfl) (p_nil (by kernel_rfl) H) (fun x22 H => ?_)
   refine ls_p (d := some 23) (by kernel_rfl) (by kernel_rfl) (p_off Try.underlying48 rfl (fun w => ⟨_, Try.sizeOf22 w⟩) rfl (by kernel_rfl) H) (fun x23 H => ?_)
   refine ls_y (d := some 24) (by kernel_rfl) (by kernel_rfl) HA_2 (y_ld Try.isAgg22 (by kernel_rfl) H) (fun x24 H => ?_)
   refine ls_move (x := x4) (by kernel_rfl) (by kernel_rfl) ?_
   refine ls_fr (b := ⟨#[x0, ud, (.slice none 0 0), x3, x4, x5, x0, x7, x8, x9, x10, x4, x0, x13, x14, x15, x16, x17, (D 7), (D 8), x3, x0, x22, x23, x24, x4, (D 15), (D 16), (D 17), ud, ud, ud, ud, ud, ud], []⟩) (by kernel_rfl) ?_
   refine ls_p (d := some 26) (by kernel_rfl) (by kernel_rfl) (p_ixs Try.underlying22 Try.sizeOf30 (by kernel_rfl) (by kernel_rfl) H) (fun x26 H => ?_)
   refine ls_y (d := some 27) (by kernel_rfl) (by kernel_rfl) HA_2 (y_ld Try.isAgg30 (by kernel_rfl) H) (fun x27 H => ?_)
   refine ls_d (d := some 28) (by kernel_rfl) (by kernel_rfl) HA_2 (d_app (z := #[.int .u8 0]) Try.underlying30 Try.underlying30 (.inl ⟨_, rfl⟩) Try.typeInfo5 (by kernel_rfl) Try.sizeOf5 Try.zeroValue5 (by kernel_rfl) (by kernel_rfl) (by kernel_rfl) H) (fun x28 h_3 w_3 H HA_3 => ?_)
   refine ls_assign (x := x28) (by kernel_rfl) (by kernel_rfl) ?_
   refine ls_nil ?_
   refine block_normal ?_
   refine then_normal ?_
   refine fr_eq (b := ⟨#[x0, ud, (.slice none 0 0), x28, x4, x5, x0, x7, x8, x9, x10, x4, x0, x13, x14, x15, x16, x17, (D 7), (D 8), x3, x0, x22, x23, x24, x4, x26, x27, x28, ud, ud, ud, ud, ud, ud], []⟩) (by kernel_rfl) ?_
   refine lwp_list ?_
   refine ls_move (x := x4) (by kernel_rfl) (by kernel_rfl) ?_
   refine ls_p (d := some 19) (by kernel_rfl) (by kernel_rfl) (p_add (by kernel_rfl) (by kernel_rfl) H) (fun x19 H => ?_)
   refine ls_assign (x := x19) (by kernel_rfl) (by kernel_rfl) ?_
   refine ls_nil ?_
   exact ⟨⟨(fun i => ([x4, x0, x13, x14, x15, x16, x17, x4, x19, x3, x0, x22, x23, x24, x4, x26, x27, x28]).getD i ud), x28, x19, h_3, by kernel_rfl, HA_3, H.1⟩, loop_lt HA_3.heap HA_2.heap (by kernel_rfl) (by kernel_rfl) H.2⟩
  ·refine wp_exit ?_
   refine then_exit ?_
   refine then_exit ?_
   refine block_exit ?_
   refine then_normal ?_
   refine fr_eq (b := ⟨#[x0, ud, (.slice none 0 0), x3, x4, x5, x0, x7, x8, x9, x10, x4, x0, x13, x14, x15, x16, x17, (D 7), (D 8), (D 9), (D 10), (D 11), (D 12), (D 13), (D 14), (D 15), (D 16), (D 17), ud, ud, ud, ud, ud, ud], []⟩) (by kernel_rfl) ?_
   refine wp_seq (lwp_list ?_)
   refine ls_move (x := x3) (by kernel_rfl) (by kernel_rfl) ?_
   refine ls_move (x := x0) (by kernel_rfl) (by kernel_rfl) ?_
   refine ls_p (d := some 31) (by kernel_rfl) (by kernel_rfl) (p_nil (by kernel_rfl) H) (fun x31 H => ?_)
   refine ls_p (d := some 32) (by kernel_rfl) (by kernel_rfl) (p_off Try.underlying48 rfl (fun w => ⟨_, Try.sizeOf30 w⟩) rfl (by kernel_rfl) H) (fun x32 H => ?_)
   refine ls_y (d := some 33) (by kernel_rfl) (by kernel_rfl) HA_2 (y_ld Try.isAgg30 (by kernel_rfl) H) (fun x33 H => ?_)
   refine ls_d (d := some 34) (by kernel_rfl) (by kernel_rfl) HA_2 (d_app (z := #[.int .u8 0]) Try.underlying30 Try.underlying30 (.inl ⟨_, rfl⟩) Try.typeInfo5 (by kernel_rfl) Try.sizeOf5 Try.zeroValue5 (by kernel_rfl) (by kernel_rfl) (by kernel_rfl) H) (fun x34 h_4 w_4 H HA_4 => ?_)
   refine ls_fr (b := ⟨#[x0, ud, (.slice none 0 0), x3, x4, x5, x0, x7, x8, x9, x10, x4, x0, x13, x14, x15, x16, x17, (D 7), (D 8), (D 9), (D 10), (D 11), (D 12), (D 13), (D 14), (D 15), (D 16), (D 17), x3, x0, x31, x32, x33, x34], []⟩) (by kernel_rfl) ?_
   refine ls_assign (x := x34) (by kernel_rfl) (by kernel_rfl) ?_
   refine ls_nil (then_normal ?_)
   refine fr_eq (b := ⟨#[x0, ud, x34, x3, x4, x5, x0, x7, x8, x9, x10, x4, x0, x13, x14, x15, x16, x17, (D 7), (D 8), (D 9), (D 10), (D 11), (D 12), (D 13), (D 14), (D 15), (D 16), (D 17), x3, x0, x31, x32, x33, x34], []⟩) (by kernel_rfl) ?_
   refine wp_ret ?_
   exact end1 (Try.results56) (by kernel_rfl) (by kernel_rfl) HA_4 H _ (.inr rfl)

end Go.Proofs.Ytlcklnbgknhhkaa

end

section
/- The shallow reading of one function, and that the function does it. Written by a program. -/
set_option linter.unusedVariables false
namespace Go.Proofs.Ytlcklnbgknhhkaa
open Go Go.HW

def betonyref18_Disc_Flush_S (x0 : Value) (h : Heap) (R : Value → Heap → Prop) : Prop :=
  sNil x0 fun x3 =>
  sOff x3 17 fun x4 =>
  sSt h x4 (.slice none 0 0) fun h => 
  sNil x0 fun x6 =>
  sOff x6 18 fun x7 =>
  sSt h x7 (.slice none 0 0) fun h_1 => 
  sNil x0 fun x9 =>
  sOff x9 19 fun x10 =>
  sSt h_1 x10 (.slice none 0 0) fun h_2 => 
  R unit h_2
set_option maxRecDepth 100000 in
theorem betonyref18_Disc_Flush_runs {x0 : Value} {h : Heap} {R : Value → Heap → Prop} (H : betonyref18_Disc_Flush_S x0 h R) : betonyref18_Disc_Flush_c x0 h R := by
 unfold betonyref18_Disc_Flush_S at H
 refine runs_of (b := ⟨#[x0, ud, ud, ud, ud, ud, ud, ud, ud, ud, ud], []⟩) Try.call28 Try.func28 rfl (by kernel_rfl) (fun w0 HA => ?_)
 refine wp_seq (lwp_list ?_)
 refine ls_move (x := x0) (by kernel_rfl) (by kernel_rfl) ?_
 refine ls_p (d := some 3) (by kernel_rfl) (by kernel_rfl) (p_nil (by kernel_rfl) H) (fun x3 H => ?_)
 refine ls_p (d := some 4) (by kernel_rfl) (by kernel_rfl) (p_off Try.underlying48 rfl (fun w => ⟨_, Try.sizeOf30 w⟩) rfl (by kernel_rfl) H) (fun x4 H => ?_)
 refine ls_d (d := none) (by kernel_rfl) (by kernel_rfl) HA (d_st Try.sizeOf30 (by kernel_rfl) (by kernel_rfl) H) (fun _ h w H HA => ?_)
 refine ls_nil (then_normal ?_)
 refine fr_eq (b := ⟨#[x0, ud, x0, x3, x4, ud, ud, ud, ud, ud, ud], []⟩) (by kernel_rfl) ?_
 refine wp_seq (lwp_list ?_)
 refine ls_move (x := x0) (by kernel_rfl) (by kernel_rfl) ?_
 refine ls_p (d := some 6) (by kernel_rfl) (by kernel_rfl) (p_nil (by kernel_rfl) H) (fun x6 H => ?_)
 refine ls_p (d := some 7) (by kernel_rfl) (by kernel_rfl) (p_off Try.underlying48 rfl (fun w => ⟨_, Try.sizeOf22 w⟩) rfl (by kernel_rfl) H) (fun x7 H => ?_)
 refine ls_d (d := none) (by kernel_rfl) (by kernel_rfl) HA (d_st Try.sizeOf22 (by kernel_rfl) (by kernel_rfl) H) (fun _ h_1 w_1 H HA_1 => ?_)
 refine ls_nil (then_normal ?_)
 refine fr_eq (b := ⟨#[x0, ud, x0, x3, x4, x0, x6, x7, ud, ud, ud], []⟩) (by kernel_rfl) ?_
 refine lwp_list ?_
 refine ls_move (x := x0) (by kernel_rfl) (by kernel_rfl) ?_
 refine ls_p (d := some 9) (by kernel_rfl) (by kernel_rfl) (p_nil (by kernel_rfl) H) (fun x9 H => ?_)
 refine ls_p (d := some 10) (by kernel_rfl) (by kernel_rfl) (p_off Try.underlying48 rfl (fun w => ⟨_, Try.sizeOf30 w⟩) rfl (by kernel_rfl) H) (fun x10 H => ?_)
 refine ls_d (d := none) (by kernel_rfl) (by kernel_rfl) HA_1 (d_st Try.sizeOf30 (by kernel_rfl) (by kernel_rfl) H) (fun _ h_2 w_2 H HA_2 => ?_)
 refine ls_nil ?_
 exact end0 (Try.results28) (by kernel_rfl) HA_2 H _ (.inl rfl)

end Go.Proofs.Ytlcklnbgknhhkaa

end

section
/- The shallow reading of one function, and that the function does it. Written by a program. -/
set_option linter.unusedVariables false
namespace Go.Proofs.Ytlcklnbgknhhkaa
open Go Go.HW

def betonyref18_Disc_Ready_S (x0 : Value) (h : Heap) (R : Value → Heap → Prop) : Prop :=
  ∃ C : Heap → Prop, C h ∧ (betonyref18_Disc_All_c x0 h fun x4 h => C h ∧ (
  sLen x4 fun x5 =>
  sNil x0 fun x7 =>
  sOff x7 17 fun x8 =>
  sLdC C x8 fun x9 =>
  sLen x9 fun x10 =>
  sSub .i64 x5 x10 fun x11 =>
  R x11 h))
set_option maxRecDepth 100000 in
theorem betonyref18_Disc_Ready_runs {x0 : Value} {h : Heap} {R : Value → Heap → Prop} (H : betonyref18_Disc_Ready_S x0 h R) : betonyref18_Disc_Ready_c x0 h R := by
 unfold betonyref18_Disc_Ready_S at H
 refine runs_of (b := ⟨#[x0, ud, ud, ud, ud, ud, ud, ud, ud, ud, ud, ud], []⟩) Try.call30 Try.func30 rfl (by kernel_rfl) (fun w0 HA => ?_)
 refine wp_seq (lwp_list ?_)
 refine ls_assign (x := (.int .i64 0)) (by kernel_rfl) (by kernel_rfl) ?_
 refine ls_nil (then_normal ?_)
 refine fr_eq (b := ⟨#[x0, ud, (.int .i64 0), ud, ud, ud, ud, ud, ud, ud, ud, ud], []⟩) (by kernel_rfl) ?_
 refine wp_seq ?_
 obtain ⟨C, HC, H⟩ := H
 refine lwp_mx (Nat.testBit 2) (Nat.testBit 2) (Nat.testBit 957) [0, 1, 3, 0, 8, 24, 56, 120, 255, 511] (Nat.testBit 0) C [0, 1, 2, 3, 4, 5, 6, 7, 8, 9] (by kernel_rfl) (by kernel_rfl) (by kernel_rfl) (by kernel_rfl) HA HC ?_
 intro w HA
 refine lm_al (x := x0) (d := some 3) (by kernel_rfl) rfl (by kernel_rfl) (by kernel_rfl) (al_move (by kernel_rfl)) ?_
 refine lm_dc (d := some 4) (by kernel_rfl) rfl (by kernel_rfl) (by kernel_rfl) (by kernel_rfl) HA (d_call (by kernel_rfl) (by kernel_rfl) H) (fun x4 h w_1 H HA_1 => ?_)
 refine lm_p (d := some 5) (by kernel_rfl) rfl (by kernel_rfl) (by kernel_rfl) (p_len Try.underlying30 (by kernel_rfl) H) (fun x5 H => ?_)
 refine lm_al (x := x0) (d := some 6) (by kernel_rfl) rfl (by kernel_rfl) (by kernel_rfl) (al_move (by kernel_rfl)) ?_
 refine lm_p (d := some 7) (by kernel_rfl) rfl (by kernel_rfl) (by kernel_rfl) (p_nil (by kernel_rfl) H) (fun x7 H => ?_)
 refine lm_p (d := some 8) (by kernel_rfl) rfl (by kernel_rfl) (by kernel_rfl) (p_off Try.underlying48 rfl (fun w => ⟨_, Try.sizeOf30 w⟩) rfl (by kernel_rfl) H) (fun x8 H => ?_)
 refine lm_f (d := some 9) (by kernel_rfl) rfl (by kernel_rfl) (by kernel_rfl) (by kernel_rfl) (by kernel_rfl) (c_ld Try.isAgg30 (by kernel_rfl) H) (fun x9 H => ?_)
 refine lm_p (d := some 10) (by kernel_rfl) rfl (by kernel_rfl) (by kernel_rfl) (p_len Try.underlying30 (by kernel_rfl) H) (fun x10 H => ?_)
 refine lm_p (d := some 11) (by kernel_rfl) rfl (by kernel_rfl) (by kernel_rfl) (p_sub (by kernel_rfl) (by kernel_rfl) H) (fun x11 H => ?_)
 refine lm_al (x := x11) (d := some 2) (by kernel_rfl) rfl (by kernel_rfl) (by kernel_rfl) (al_assign (by kernel_rfl)) ?_
 refine lm_nil ?_
 refine then_normal ?_
 refine fr_eq (b := ⟨#[x0, ud, x11, x0, x4, x5, x0, x7, x8, x9, x10, x11], []⟩) (by kernel_rfl) ?_
 refine wp_ret ?_
 exact end1 (Try.results30) (by kernel_rfl) (by kernel_rfl) HA_1 H _ (.inr rfl)

end Go.Proofs.Ytlcklnbgknhhkaa

end

section
/- The shallow reading of one function, and that the function does it. Written by a program. -/
set_option linter.unusedVariables false
namespace Go.Proofs.Ytlcklnbgknhhkaa
open Go Go.HW

def betonyref18_Disc_back_l1 (R : Value → Heap → Prop) (x0 x15 : Value) (next : Value → Heap → Prop) (x3 : Value) (h_3 : Heap) : Prop :=
  betonyref18_Disc_picture_c x0 x15 h_3 fun x39 h_4 => 
  sLen x39 fun x40 =>
  sLt x3 x40 fun x41 =>
  sIf x41 (sSlit h_4 #[.int .u8 0, .int .u8 0, .int .u8 0] [(0, 1, (.int .u8 8)), (1, 1, (.int .u8 32)), (2, 1, (.int .u8 8))] 5 3 fun x45 h_5 => 
  betonyref18_Disc_out_c x0 x45 h_5 fun x46 h_6 => 
  sAdd .i64 x3 (.int .i64 1) fun x43 =>
  next x43 h_6) (R unit h_4)
def betonyref18_Disc_back_S (x0 : Value) (h : Heap) (R : Value → Heap → Prop) : Prop :=
  sNil x0 fun x5 =>
  sOff x5 17 fun x6 =>
  sLd h x6 fun x7 =>
  sNil x0 fun x9 =>
  sOff x9 17 fun x10 =>
  sLd h x10 fun x11 =>
  sLen x11 fun x12 =>
  sSub .i64 x12 (.int .i64 1) fun x13 =>
  sIxS x7 x13 1 fun x14 =>
  sLd h x14 fun x15 =>
  sNil x0 fun x18 =>
  sOff x18 17 fun x19 =>
  sLd h x19 fun x20 =>
  sNil x0 fun x22 =>
  sOff x22 17 fun x23 =>
  sLd h x23 fun x24 =>
  sLen x24 fun x25 =>
  sSub .i64 x25 (.int .i64 1) fun x26 =>
  sSl x20 none (some x26) 1 fun x27 =>
  sNil x0 fun x28 =>
  sOff x28 17 fun x29 =>
  sSt h x29 x27 fun h => 
  betonyref18_Disc_local_c x0 (.int .i64 2) h fun x31 h_1 => 
  sAndH x31 h_1 (fun k =>
  betonyref18_Disc_local_c x0 (.int .i64 4) h_1 fun x34 h_7 => 
  k x34 h_7) fun x35 h_2 =>
  sIf x35 (sLoop (S := Value) (fun nxt s h => betonyref18_Disc_back_l1 R x0 x15 (fun x3' h => nxt x3' h) s h) (.int .i64 0) h_2) (R unit h_2)
set_option maxRecDepth 100000 in
theorem betonyref18_Disc_back_runs {x0 : Value} {h : Heap} {R : Value → Heap → Prop} (H : betonyref18_Disc_back_S x0 h R) : betonyref18_Disc_back_c x0 h R := by
 unfold betonyref18_Disc_back_S at H
 refine runs_of (b := ⟨#[x0, ud, ud, ud, ud, ud, ud, ud, ud, ud, ud, ud, ud, ud, ud, ud, ud, ud, ud, ud, ud, ud, ud, ud, ud, ud, ud, ud, ud, ud, ud, ud, ud, ud, ud, ud, ud, ud, ud, ud, ud, ud, ud, ud, ud, ud, ud], []⟩) Try.call52 Try.func52 rfl (by kernel_rfl) (fun w0 HA => ?_)
 refine wp_seq ?_
 refine lwp_qt (by kernel_rfl) (by kernel_rfl) HA ?_
 refine lq_move (x := x0) (by kernel_rfl) (by kernel_rfl) ?_
 refine lq_p (d := some 5) (by kernel_rfl) (by kernel_rfl) (p_nil (by kernel_rfl) H) (fun x5 H => ?_)
 refine lq_p (d := some 6) (by kernel_rfl) (by kernel_rfl) (p_off Try.underlying48 rfl (fun w => ⟨_, Try.sizeOf30 w⟩) rfl (by kernel_rfl) H) (fun x6 H => ?_)
 refine lq_y (d := some 7) (by kernel_rfl) (by kernel_rfl) HA (y_ld Try.isAgg30 (by kernel_rfl) H) (fun x7 H => ?_)
 refine lq_move (x := x0) (by kernel_rfl) (by kernel_rfl) ?_
 refine lq_p (d := some 9) (by kernel_rfl) (by kernel_rfl) (p_nil (by kernel_rfl) H) (fun x9 H => ?_)
 refine lq_fr (b := ⟨#[x0, ud, ud, ud, x0, x5, x6, x7, x0, x9, ud, ud, ud, ud, ud, ud, ud, ud, ud, ud, ud, ud, ud, ud, ud, ud, ud, ud, ud, ud, ud, ud, ud, ud, ud, ud, ud, ud, ud, ud, ud, ud, ud, ud, ud, ud, ud], []⟩) (by kernel_rfl) ?_
 refine lq_p (d := some 10) (by kernel_rfl) (by kernel_rfl) (p_off Try.underlying48 rfl (fun w => ⟨_, Try.sizeOf30 w⟩) rfl (by kernel_rfl) H) (fun x10 H => ?_)
 refine lq_y (d := some 11) (by kernel_rfl) (by kernel_rfl) HA (y_ld Try.isAgg30 (by kernel_rfl) H) (fun x11 H => ?_)
 refine lq_p (d := some 12) (by kernel_rfl) (by kernel_rfl) (p_len Try.underlying30 (by kernel_rfl) H) (fun x12 H => ?_)
 refine lq_p (d := some 13) (by kernel_rfl) (by kernel_rfl) (p_sub (by kernel_rfl) (by kernel_rfl) H) (fun x13 H => ?_)
 refine lq_p (d := some 14) (by kernel_rfl) (by kernel_rfl) (p_ixs Try.underlying30 Try.sizeOf5 (by kernel_rfl) (by kernel_rfl) H) (fun x14 H => ?_)
 refine lq_y (d := some 15) (by kernel_rfl) (by kernel_rfl) HA (y_ld Try.isAgg5 (by kernel_rfl) H) (fun x15 H => ?_)
 refine lq_fr (b := ⟨#[x0, ud, ud, ud, x0, x5, x6, x7, x0, x9, x10, x11, x12, x13, x14, x15, ud, ud, ud, ud, ud, ud, ud, ud, ud, ud, ud, ud, ud, ud, ud, ud, ud, ud, ud, ud, ud, ud, ud, ud, ud, ud, ud, ud, ud, ud, ud], []⟩) (by kernel_rfl) ?_
 refine lq_assign (x := x15) (by kernel_rfl) (by kernel_rfl) ?_
 refine lq_nil ?_
 intro w HA
 refine then_normal ?_
 refine fr_eq (b := ⟨#[x0, ud, x15, ud, x0, x5, x6, x7, x0, x9, x10, x11, x12, x13, x14, x15, ud, ud, ud, ud, ud, ud, ud, ud, ud, ud, ud, ud, ud, ud, ud, ud, ud, ud, ud, ud, ud, ud, ud, ud, ud, ud, ud, ud, ud, ud, ud], []⟩) (by kernel_rfl) ?_
 refine wp_seq ?_
 refine lwp_mx (Nat.testBit 16384) (Nat.testBit 0) (Nat.testBit 16111) [0, 0, 2, 6, 14, 0, 32, 96, 224, 480, 992, 2046, 4095, 8191, 16383] (Nat.testBit 0) (fun h' => h' = h) [0, 1, 2, 3, 4, 5, 6, 7, 8, 9, 10, 11, 12, 13, 14] (by kernel_rfl) (by kernel_rfl) (by kernel_rfl) (by kernel_rfl) HA rfl ?_
 intro w_1 HA_1
 refine lm_al (x := x0) (d := some 16) (by kernel_rfl) rfl (by kernel_rfl) (by kernel_rfl) (al_move (by kernel_rfl)) ?_
 refine lm_al (x := x0) (d := some 17) (by kernel_rfl) rfl (by kernel_rfl) (by kernel_rfl) (al_move (by kernel_rfl)) ?_
 refine lm_p (d := some 18) (by kernel_rfl) rfl (by kernel_rfl) (by kernel_rfl) (p_nil (by kernel_rfl) H) (fun x18 H => ?_)
 refine lm_p (d := some 19) (by kernel_rfl) rfl (by kernel_rfl) (by kernel_rfl) (p_off Try.underlying48 rfl (fun w => ⟨_, Try.sizeOf30 w⟩) rfl (by kernel_rfl) H) (fun x19 H => ?_)
 refine lm_f (d := some 20) (by kernel_rfl) rfl (by kernel_rfl) (by kernel_rfl) (by kernel_rfl) (by kernel_rfl) (of_eq (y_ld Try.isAgg30 (by kernel_rfl) H)) (fun x20 H => ?_)
 refine lm_al (x := x0) (d := some 21) (by kernel_rfl) rfl (by kernel_rfl) (by kernel_rfl) (al_move (by kernel_rfl)) ?_
 refine lm_fr (b := ⟨#[x0, ud, x15, ud, x0, x5, x6, x7, x0, x9, x10, x11, x12, x13, x14, x15, x0, x0, x18, x19, x20, x0, ud, ud, ud, ud, ud, ud, ud, ud, ud, ud, ud, ud, ud, ud, ud, ud, ud, ud, ud, ud, ud, ud, ud, ud, ud], []⟩) (by kernel_rfl) ?_
 refine lm_p (d := some 22) (by kernel_rfl) rfl (by kernel_rfl) (by kernel_rfl) (p_nil (by kernel_rfl) H) (fun x22 H => ?_)
 refine lm_p (d := some 23) (by kernel_rfl) rfl (by kernel_rfl) (by kernel_rfl) (p_off Try.underlying48 rfl (fun w => ⟨_, Try.sizeOf30 w⟩) rfl (by kernel_rfl) H) (fun x23 H => ?_)
 refine lm_f (d := some 24) (by kernel_rfl) rfl (by kernel_rfl) (by kernel_rfl) (by kernel_rfl) (by kernel_rfl) (of_eq (y_ld Try.isAgg30 (by kernel_rfl) H)) (fun x24 H => ?_)
 refine lm_p (d := some 25) (by kernel_rfl) rfl (by kernel_rfl) (by kernel_rfl) (p_len Try.underlying30 (by kernel_rfl) H) (fun x25 H => ?_)
 refine lm_p (d := some 26) (by kernel_rfl) rfl (by kernel_rfl) (by kernel_rfl) (p_sub (by kernel_rfl) (by kernel_rfl) H) (fun x26 H => ?_)
 refine lm_p (d := some 27) (by kernel_rfl) rfl (by kernel_rfl) (by kernel_rfl) (p_sl Try.underlying30 Try.sizeOf5 (by kernel_rfl) (by kernel_rfl) (by kernel_rfl) H) (fun x27 H => ?_)
 refine lm_fr (b := ⟨#[x0, ud, x15, ud, x0, x5, x6, x7, x0, x9, x10, x11, x12, x13, x14, x15, x0, x0, x18, x19, x20, x0, x22, x23, x24, x25, x26, x27, ud, ud, ud, ud, ud, ud, ud, ud, ud, ud, ud, ud, ud, ud, ud, ud, ud, ud, ud], []⟩) (by kernel_rfl) ?_
 refine lm_p (d := some 28) (by kernel_rfl) rfl (by kernel_rfl) (by kernel_rfl) (p_nil (by kernel_rfl) H) (fun x28 H => ?_)
 refine lm_p (d := some 29) (by kernel_rfl) rfl (by kernel_rfl) (by kernel_rfl) (p_off Try.underlying48 rfl (fun w => ⟨_, Try.sizeOf30 w⟩) rfl (by kernel_rfl) H) (fun x29 H => ?_)
 refine lm_d (d := none) (by kernel_rfl) rfl (by kernel_rfl) (by kernel_rfl) (by kernel_rfl) HA_1 (d_st Try.sizeOf30 (by kernel_rfl) (by kernel_rfl) H) (fun _ h w_2 H HA_2 => ?_)
 refine lm_nil ?_
 refine then_normal ?_
 refine fr_eq (b := ⟨#[x0, ud, x15, ud, x0, x5, x6, x7, x0, x9, x10, x11, x12, x13, x14, x15, x0, x0, x18, x19, x20, x0, x22, x23, x24, x25, x26, x27, x28, x29, ud, ud, ud, ud, ud, ud, ud, ud, ud, ud, ud, ud, ud, ud, ud, ud, ud], []⟩) (by kernel_rfl) ?_
 refine wp_seq (lwp_list ?_)
 refine ls_move (x := x0) (by kernel_rfl) (by kernel_rfl) ?_
 refine ls_d (d := some 31) (by kernel_rfl) (by kernel_rfl) HA_2 (d_call (by kernel_rfl) (by kernel_rfl) H) (fun x31 h_1 w_3 H HA_3 => ?_)
 refine ls_move (x := x31) (by kernel_rfl) (by kernel_rfl) ?_
 refine ls_andh [(), (), ()] (fun K a w => ∃ (D : Nat → Value) (x35 : Value) (h_2 : Heap), a = ⟨#[x0, ud, x15, ud, x0, x5, x6, x7, x0, x9, x10, x11, x12, x13, x14, x15, x0, x0, x18, x19, x20, x0, x22, x23, x24, x25, x26, x27, x28, x29, x0, x31, x31, (D 0), (D 1), x35, ud, ud, ud, ud, ud, ud, ud, ud, ud, ud, ud], []⟩ ∧ At w0 w h_2 ∧ K x35 h_2) H (fun hb H => ?_) (fun hb H => ?_) ?_
 ·refine ls_move (x := x0) (by rw [hb]; kernel_rfl) (by kernel_rfl) ?_
  refine ls_d (d := some 34) (by kernel_rfl) (by rw [hb]; kernel_rfl) HA_3 (d_call (by kernel_rfl) (by kernel_rfl) H) (fun x34 h_7 w_9 H HA_9 => ?_)
  refine ls_pick_t (x := x34) (by kernel_rfl) (by rw [hb]; kernel_rfl) (by kernel_rfl) ?_
  refine ls_nil (then_normal ?_)
  exact ⟨(fun i => ([x0, x34]).getD i ud), x34, h_7, by kernel_rfl, HA_9, H⟩
 ·refine ls_skip (d := some 33) (by kernel_rfl) (by rw [hb]; kernel_rfl) ?_
  refine ls_skip (d := some 34) (by kernel_rfl) (by rw [hb]; kernel_rfl) ?_
  refine ls_pick_f (y := (.bool false)) (by kernel_rfl) (by rw [hb]; kernel_rfl) (by kernel_rfl) ?_
  refine ls_nil (then_normal ?_)
  exact ⟨(fun i => ([ud, ud]).getD i ud), (.bool false), h_1, by kernel_rfl, HA_3, H⟩
 ·rintro _ w_4 ⟨D, x35, h_2, rfl, HA_4, H⟩
  refine ls_nil (then_normal ?_)
  refine fr_eq (b := ⟨#[x0, ud, x15, ud, x0, x5, x6, x7, x0, x9, x10, x11, x12, x13, x14, x15, x0, x0, x18, x19, x20, x0, x22, x23, x24, x25, x26, x27, x28, x29, x0, x31, x31, (D 0), (D 1), x35, ud, ud, ud, ud, ud, ud, ud, ud, ud, ud, ud], []⟩) (by kernel_rfl) ?_
  refine wp_if rfl H (fun H => ?_) (fun H => ?_)
  ·refine wp_seq (lwp_list ?_)
   refine ls_assign (x := (.int .i64 0)) (by kernel_rfl) (by kernel_rfl) ?_
   refine ls_nil (then_normal ?_)
   refine fr_eq (b := ⟨#[x0, ud, x15, (.int .i64 0), x0, x5, x6, x7, x0, x9, x10, x11, x12, x13, x14, x15, x0, x0, x18, x19, x20, x0, x22, x23, x24, x25, x26, x27, x28, x29, x0, x31, x31, (D 0), (D 1), x35, ud, ud, ud, ud, ud, ud, ud, ud, ud, ud, ud], []⟩) (by kernel_rfl) ?_
   refine wp_block ?_
   obtain ⟨I, m, H0, HB⟩ := H
   refine wp_loop (fun a w => ∃ (D_1 : Nat → Value) (x3 : Value) (h_3 : Heap), a = ⟨#[x0, ud, x15, x3, x0, x5, x6, x7, x0, x9, x10, x11, x12, x13, x14, x15, x0, x0, x18, x19, x20, x0, x22, x23, x24, x25, x26, x27, x28, x29, x0, x31, x31, (D 0), (D 1), x35, (D_1 0), (D_1 1), (D_1 2), (D_1 3), (D_1 4), (D_1 5), (D_1 6), (D_1 7), (D_1 8), (D_1 9), (D_1 10)], []⟩ ∧ At w0 w h_3 ∧ I x3 h_3) (fun a w => m (a.tmps.getD 3 ud) w.heap) ?_ ?_
   ·exact ⟨(fun i => (Ap [] 11).getD i ud), (.int .i64 0), h_2, by kernel_rfl, HA_4, H0⟩
   ·rintro _ w_5 ⟨D_1, x3, h_3, rfl, HA_5, HI⟩
    have H : betonyref18_Disc_back_l1 R x0 x15 (fun x3' h' => I x3' h' ∧ m x3' h' < m x3 h_3) x3 h_3 := HB x3 h_3 HI
    clear HB H0 HI
    unfold betonyref18_Disc_back_l1 at H
    refine wp_seq ?_
    refine wp_seq (lwp_list ?_)
    refine ls_move (x := x3) (by kernel_rfl) (by kernel_rfl) ?_
    refine ls_move (x := x0) (by kernel_rfl) (by kernel_rfl) ?_
    refine ls_move (x := x15) (by kernel_rfl) (by kernel_rfl) ?_
    refine ls_d (d := some 39) (by kernel_rfl) (by kernel_rfl) HA_5 (d_call (by kernel_rfl) (by kernel_rfl) H) (fun x39 h_4 w_6 H HA_6 => ?_)
    refine ls_p (d := some 40) (by kernel_rfl) (by kernel_rfl) (p_len Try.underlying30 (by kernel_rfl) H) (fun x40 H => ?_)
    refine ls_p (d := some 41) (by kernel_rfl) (by kernel_rfl) (p_sLt (by kernel_rfl) (by kernel_rfl) H) (fun x41 H => ?_)
    refine ls_nil (then_normal ?_)
    refine fr_eq (b := ⟨#[x0, ud, x15, x3, x0, x5, x6, x7, x0, x9, x10, x11, x12, x13, x14, x15, x0, x0, x18, x19, x20, x0, x22, x23, x24, x25, x26, x27, x28, x29, x0, x31, x31, (D 0), (D 1), x35, x3, x0, x15, x39, x40, x41, (D_1 6), (D_1 7), (D_1 8), (D_1 9), (D_1 10)], []⟩) (by kernel_rfl) ?_
    refine wp_if rfl H (fun H => ?_) (fun H => ?_)
    ·refine wp_skip ?_
     refine then_normal ?_
     refine fr_eq (b := ⟨#[x0, ud, x15, x3, x0, x5, x6, x7, x0, x9, x10, x11, x12, x13, x14, x15, x0, x0, x18, x19, x20, x0, x22, x23, x24, x25, x26, x27, x28, x29, x0, x31, x31, (D 0), (D 1), x35, x3, x0, x15, x39, x40, x41, (D_1 6), (D_1 7), (D_1 8), (D_1 9), (D_1 10)], []⟩) (by kernel_rfl) ?_
     refine wp_seq ?_
     refine wp_block ?_
     refine lwp_list ?_
     refine ls_move (x := x0) (by kernel_rfl) (by kernel_rfl) ?_
     refine ls_d (d := some 45) (by kernel_rfl) (by kernel_rfl) HA_6 (d_slit (zc := #[.int .u8 0]) Try.underlying30 Try.sizeOf5 (by decide) (.inr ⟨by decide, _, Try.zeroValue5, (by kernel_rfl)⟩) (by kernel_rfl) (by kernel_rfl) H) (fun x45 h_5 w_7 H HA_7 => ?_)
     refine ls_d (d := some 46) (by kernel_rfl) (by kernel_rfl) HA_7 (d_call (by kernel_rfl) (by kernel_rfl) H) (fun x46 h_6 w_8 H HA_8 => ?_)
     refine ls_nil ?_
     refine block_normal ?_
     refine then_normal ?_
     refine fr_eq (b := ⟨#[x0, ud, x15, x3, x0, x5, x6, x7, x0, x9, x10, x11, x12, x13, x14, x15, x0, x0, x18, x19, x20, x0, x22, x23, x24, x25, x26, x27, x28, x29, x0, x31, x31, (D 0), (D 1), x35, x3, x0, x15, x39, x40, x41, (D_1 6), (D_1 7), x0, x45, x46], []⟩) (by kernel_rfl) ?_
     refine lwp_list ?_
     refine ls_move (x := x3) (by kernel_rfl) (by kernel_rfl) ?_
     refine ls_p (d := some 43) (by kernel_rfl) (by kernel_rfl) (p_add (by kernel_rfl) (by kernel_rfl) H) (fun x43 H => ?_)
     refine ls_assign (x := x43) (by kernel_rfl) (by kernel_rfl) ?_
     refine ls_nil ?_
     exact ⟨⟨(fun i => ([x3, x0, x15, x39, x40, x41, x3, x43, x0, x45, x46]).getD i ud), x43, h_6, by kernel_rfl, HA_8, H.1⟩, loop_lt HA_8.heap HA_5.heap (by kernel_rfl) (by kernel_rfl) H.2⟩
    ·refine wp_exit ?_
     refine then_exit ?_
     refine then_exit ?_
     refine block_exit ?_
     exact end0 (Try.results52) (by kernel_rfl) HA_6 H _ (.inl rfl)
  ·refine wp_skip ?_
   exact end0 (Try.results52) (by kernel_rfl) HA_4 H _ (.inl rfl)

end Go.Proofs.Ytlcklnbgknhhkaa

end

section
/- The shallow reading of one function, and that the function does it. Written by a program. -/
set_option linter.unusedVariables false
namespace Go.Proofs.Ytlcklnbgknhhkaa
open Go Go.HW

def betonyref18_Disc_blank_S (x0 : Value) (h : Heap) (R : Value → Heap → Prop) : Prop :=
  sNil x0 fun x5 =>
  sOff x5 17 fun x6 =>
  sLd h x6 fun x7 =>
  sNil x0 fun x9 =>
  sOff x9 17 fun x10 =>
  sLd h x10 fun x11 =>
  sLen x11 fun x12 =>
  sSub .i64 x12 (.int .i64 1) fun x13 =>
  sIxS x7 x13 1 fun x14 =>
  sLd h x14 fun x15 =>
  sEq x15 (.int .u8 32) fun x17 =>
  sOr x17 (fun k =>
  sEq x15 (.int .u8 9) fun x20 =>
  k x20) fun x21 =>
  R x21 h
set_option maxRecDepth 100000 in
theorem betonyref18_Disc_blank_runs {x0 : Value} {h : Heap} {R : Value → Heap → Prop} (H : betonyref18_Disc_blank_S x0 h R) : betonyref18_Disc_blank_c x0 h R := by
 unfold betonyref18_Disc_blank_S at H
 refine runs_of (b := ⟨#[x0, ud, ud, ud, ud, ud, ud, ud, ud, ud, ud, ud, ud, ud, ud, ud, ud, ud, ud, ud, ud, ud], []⟩) Try.call51 Try.func51 rfl (by kernel_rfl) (fun w0 HA => ?_)
 refine wp_seq (lwp_list ?_)
 refine ls_assign (x := (.bool false)) (by kernel_rfl) (by kernel_rfl) ?_
 refine ls_nil (then_normal ?_)
 refine fr_eq (b := ⟨#[x0, ud, (.bool false), ud, ud, ud, ud, ud, ud, ud, ud, ud, ud, ud, ud, ud, ud, ud, ud, ud, ud, ud], []⟩) (by kernel_rfl) ?_
 refine wp_seq ?_
 refine lwp_qt (by kernel_rfl) (by kernel_rfl) HA ?_
 refine lq_move (x := x0) (by kernel_rfl) (by kernel_rfl) ?_
 refine lq_p (d := some 5) (by kernel_rfl) (by kernel_rfl) (p_nil (by kernel_rfl) H) (fun x5 H => ?_)
 refine lq_p (d := some 6) (by kernel_rfl) (by kernel_rfl) (p_off Try.underlying48 rfl (fun w => ⟨_, Try.sizeOf30 w⟩) rfl (by kernel_rfl) H) (fun x6 H => ?_)
 refine lq_y (d := some 7) (by kernel_rfl) (by kernel_rfl) HA (y_ld Try.isAgg30 (by kernel_rfl) H) (fun x7 H => ?_)
 refine lq_move (x := x0) (by kernel_rfl) (by kernel_rfl) ?_
 refine lq_p (d := some 9) (by kernel_rfl) (by kernel_rfl) (p_nil (by kernel_rfl) H) (fun x9 H => ?_)
 refine lq_fr (b := ⟨#[x0, ud, (.bool false), ud, x0, x5, x6, x7, x0, x9, ud, ud, ud, ud, ud, ud, ud, ud, ud, ud, ud, ud], []⟩) (by kernel_rfl) ?_
 refine lq_p (d := some 10) (by kernel_rfl) (by kernel_rfl) (p_off Try.underlying48 rfl (fun w => ⟨_, Try.sizeOf30 w⟩) rfl (by kernel_rfl) H) (fun x10 H => ?_)
 refine lq_y (d := some 11) (by kernel_rfl) (by kernel_rfl) HA (y_ld Try.isAgg30 (by kernel_rfl) H) (fun x11 H => ?_)
 refine lq_p (d := some 12) (by kernel_rfl) (by kernel_rfl) (p_len Try.underlying30 (by kernel_rfl) H) (fun x12 H => ?_)
 refine lq_p (d := some 13) (by kernel_rfl) (by kernel_rfl) (p_sub (by kernel_rfl) (by kernel_rfl) H) (fun x13 H => ?_)
 refine lq_p (d := some 14) (by kernel_rfl) (by kernel_rfl) (p_ixs Try.underlying30 Try.sizeOf5 (by kernel_rfl) (by kernel_rfl) H) (fun x14 H => ?_)
 refine lq_y (d := some 15) (by kernel_rfl) (by kernel_rfl) HA (y_ld Try.isAgg5 (by kernel_rfl) H) (fun x15 H => ?_)
 refine lq_fr (b := ⟨#[x0, ud, (.bool false), ud, x0, x5, x6, x7, x0, x9, x10, x11, x12, x13, x14, x15, ud, ud, ud, ud, ud, ud], []⟩) (by kernel_rfl) ?_
 refine lq_assign (x := x15) (by kernel_rfl) (by kernel_rfl) ?_
 refine lq_nil ?_
 intro w HA
 refine then_normal ?_
 refine fr_eq (b := ⟨#[x0, ud, (.bool false), x15, x0, x5, x6, x7, x0, x9, x10, x11, x12, x13, x14, x15, ud, ud, ud, ud, ud, ud], []⟩) (by kernel_rfl) ?_
 refine wp_seq (lwp_list ?_)
 refine ls_move (x := x15) (by kernel_rfl) (by kernel_rfl) ?_
 refine ls_p (d := some 17) (by kernel_rfl) (by kernel_rfl) (p_sEq (by kernel_rfl) (by kernel_rfl) H) (fun x17 H => ?_)
 refine ls_move (x := x17) (by kernel_rfl) (by kernel_rfl) ?_
 refine ls_or [(), (), ()] (fun K a w => ∃ (D : Nat → Value) (x21 : Value), a = ⟨#[x0, ud, (.bool false), x15, x0, x5, x6, x7, x0, x9, x10, x11, x12, x13, x14, x15, x15, x17, x17, (D 0), (D 1), x21], []⟩ ∧ At w0 w h ∧ K x21) H (fun hb H => ?_) (fun hb H => ?_) ?_
 ·refine ls_move (x := x15) (by rw [hb]; kernel_rfl) (by kernel_rfl) ?_
  refine ls_p (d := some 20) (by kernel_rfl) (by rw [hb]; kernel_rfl) (p_sEq (by kernel_rfl) (by kernel_rfl) H) (fun x20 H => ?_)
  refine ls_pick_f (y := x20) (by kernel_rfl) (by rw [hb]; kernel_rfl) (by kernel_rfl) ?_
  refine ls_nil (then_normal ?_)
  exact ⟨(fun i => ([x15, x20]).getD i ud), x20, by kernel_rfl, HA, H⟩
 ·refine ls_skip (d := some 19) (by kernel_rfl) (by rw [hb]; kernel_rfl) ?_
  refine ls_skip (d := some 20) (by kernel_rfl) (by rw [hb]; kernel_rfl) ?_
  refine ls_pick_t (x := (.bool true)) (by kernel_rfl) (by rw [hb]; kernel_rfl) (by kernel_rfl) ?_
  refine ls_nil (then_normal ?_)
  exact ⟨(fun i => ([ud, ud]).getD i ud), (.bool true), by kernel_rfl, HA, H⟩
 ·rintro _ w_1 ⟨D, x21, rfl, HA_1, H⟩
  refine ls_assign (x := x21) (by kernel_rfl) (by kernel_rfl) ?_
  refine ls_nil (then_normal ?_)
  refine fr_eq (b := ⟨#[x0, ud, x21, x15, x0, x5, x6, x7, x0, x9, x10, x11, x12, x13, x14, x15, x15, x17, x17, (D 0), (D 1), x21], []⟩) (by kernel_rfl) ?_
  refine wp_ret ?_
  exact end1 (Try.results51) (by kernel_rfl) (by kernel_rfl) HA_1 H _ (.inr rfl)

end Go.Proofs.Ytlcklnbgknhhkaa

end

section
/- The shallow reading of one function, and that the function does it. Written by a program. -/
set_option linter.unusedVariables false
namespace Go.Proofs.Ytlcklnbgknhhkaa
open Go Go.HW

def betonyref18_Disc_in_S (x0 x1 : Value) (h : Heap) (R : Value → Heap → Prop) : Prop :=
  sNil x0 fun x6 =>
  sOff x6 0 fun x7 =>
  sOff x7 0 fun x8 =>
  sLd h x8 fun x9 =>
  betonyref17_Has_c x9 x1 h fun x11 h => 
  R x11 h
set_option maxRecDepth 100000 in
theorem betonyref18_Disc_in_runs {x0 x1 : Value} {h : Heap} {R : Value → Heap → Prop} (H : betonyref18_Disc_in_S x0 x1 h R) : betonyref18_Disc_in_c x0 x1 h R := by
 unfold betonyref18_Disc_in_S at H
 refine runs_of (b := ⟨#[x0, x1, ud, ud, ud, ud, ud, ud, ud, ud, ud, ud], []⟩) Try.call44 Try.func44 rfl (by kernel_rfl) (fun w0 HA => ?_)
 refine wp_seq (lwp_list ?_)
 refine ls_assign (x := (.bool false)) (by kernel_rfl) (by kernel_rfl) ?_
 refine ls_nil (then_normal ?_)
 refine fr_eq (b := ⟨#[x0, x1, ud, ud, (.bool false), ud, ud, ud, ud, ud, ud, ud], []⟩) (by kernel_rfl) ?_
 refine wp_seq (lwp_list ?_)
 refine ls_move (x := x0) (by kernel_rfl) (by kernel_rfl) ?_
 refine ls_p (d := some 6) (by kernel_rfl) (by kernel_rfl) (p_nil (by kernel_rfl) H) (fun x6 H => ?_)
 refine ls_p (d := some 7) (by kernel_rfl) (by kernel_rfl) (p_off Try.underlying48 rfl (fun w => ⟨_, Try.sizeOf28 w⟩) rfl (by kernel_rfl) H) (fun x7 H => ?_)
 refine ls_p (d := some 8) (by kernel_rfl) (by kernel_rfl) (p_off Try.underlying28 rfl (fun w => ⟨_, Try.sizeOf3 w⟩) rfl (by kernel_rfl) H) (fun x8 H => ?_)
 refine ls_y (d := some 9) (by kernel_rfl) (by kernel_rfl) HA (y_ld Try.isAgg3 (by kernel_rfl) H) (fun x9 H => ?_)
 refine ls_move (x := x1) (by kernel_rfl) (by kernel_rfl) ?_
 refine ls_d (d := some 11) (by kernel_rfl) (by kernel_rfl) HA (d_call (by kernel_rfl) (by kernel_rfl) H) (fun x11 h w H HA => ?_)
 refine ls_assign (x := x11) (by kernel_rfl) (by kernel_rfl) ?_
 refine ls_nil (then_normal ?_)
 refine fr_eq (b := ⟨#[x0, x1, ud, ud, x11, x0, x6, x7, x8, x9, x1, x11], []⟩) (by kernel_rfl) ?_
 refine wp_ret ?_
 exact end1 (Try.results44) (by kernel_rfl) (by kernel_rfl) HA H _ (.inr rfl)

end Go.Proofs.Ytlcklnbgknhhkaa

end

section
/- The shallow reading of one function, and that the function does it. Written by a program. -/
set_option linter.unusedVariables false
namespace Go.Proofs.Ytlcklnbgknhhkaa
open Go Go.HW

def betonyref18_Disc_is_S (x0 x1 x2 : Value) (h : Heap) (R : Value → Heap → Prop) : Prop :=
  sNil x0 fun x8 =>
  sOff x8 0 fun x9 =>
  sLdN h x9 17 fun x10 =>
  sConv .i64 x2 fun x13 =>
  betonyref17_Is_c x10 x1 x13 h fun x14 h => 
  R x14 h
set_option maxRecDepth 100000 in
theorem betonyref18_Disc_is_runs {x0 x1 x2 : Value} {h : Heap} {R : Value → Heap → Prop} (H : betonyref18_Disc_is_S x0 x1 x2 h R) : betonyref18_Disc_is_c x0 x1 x2 h R := by
 unfold betonyref18_Disc_is_S at H
 refine runs_of (b := ⟨#[x0, x1, x2, ud, ud, ud, ud, ud, ud, ud, ud, ud, ud, ud, ud], []⟩) Try.call47 Try.func47 rfl (by kernel_rfl) (fun w0 HA => ?_)
 refine wp_seq (lwp_list ?_)
 refine ls_assign (x := (.bool false)) (by kernel_rfl) (by kernel_rfl) ?_
 refine ls_nil (then_normal ?_)
 refine fr_eq (b := ⟨#[x0, x1, x2, ud, ud, ud, (.bool false), ud, ud, ud, ud, ud, ud, ud, ud], []⟩) (by kernel_rfl) ?_
 refine wp_seq (lwp_list ?_)
 refine ls_move (x := x0) (by kernel_rfl) (by kernel_rfl) ?_
 refine ls_p (d := some 8) (by kernel_rfl) (by kernel_rfl) (p_nil (by kernel_rfl) H) (fun x8 H => ?_)
 refine ls_p (d := some 9) (by kernel_rfl) (by kernel_rfl) (p_off Try.underlying48 rfl (fun w => ⟨_, Try.sizeOf28 w⟩) rfl (by kernel_rfl) H) (fun x9 H => ?_)
 refine ls_y (d := some 10) (by kernel_rfl) (by kernel_rfl) HA (y_ldn Try.isAgg28 Try.sizeOf28 (by kernel_rfl) H) (fun x10 H => ?_)
 refine ls_move (x := x1) (by kernel_rfl) (by kernel_rfl) ?_
 refine ls_move (x := x2) (by kernel_rfl) (by kernel_rfl) ?_
 refine ls_fr (b := ⟨#[x0, x1, x2, ud, ud, ud, (.bool false), x0, x8, x9, x10, x1, x2, ud, ud], []⟩) (by kernel_rfl) ?_
 refine ls_p (d := some 13) (by kernel_rfl) (by kernel_rfl) (p_conv Try.underlying5 Try.underlying3 (by kernel_rfl) H) (fun x13 H => ?_)
 refine ls_d (d := some 14) (by kernel_rfl) (by kernel_rfl) HA (d_call (by kernel_rfl) (by kernel_rfl) H) (fun x14 h w H HA => ?_)
 refine ls_assign (x := x14) (by kernel_rfl) (by kernel_rfl) ?_
 refine ls_nil (then_normal ?_)
 refine fr_eq (b := ⟨#[x0, x1, x2, ud, ud, ud, x14, x0, x8, x9, x10, x1, x2, x13, x14], []⟩) (by kernel_rfl) ?_
 refine wp_ret ?_
 exact end1 (Try.results47) (by kernel_rfl) (by kernel_rfl) HA H _ (.inr rfl)

end Go.Proofs.Ytlcklnbgknhhkaa

end

section
/- The shallow reading of one function, and that the function does it. Written by a program. -/
set_option linter.unusedVariables false
namespace Go.Proofs.Ytlcklnbgknhhkaa
open Go Go.HW

def betonyref18_Disc_local_S (x0 x1 : Value) (h : Heap) (R : Value → Heap → Prop) : Prop :=
  sNil x0 fun x6 =>
  sOff x6 0 fun x7 =>
  sOff x7 2 fun x8 =>
  sLd h x8 fun x9 =>
  betonyref17_Has_c x9 x1 h fun x11 h => 
  R x11 h
set_option maxRecDepth 100000 in
theorem betonyref18_Disc_local_runs {x0 x1 : Value} {h : Heap} {R : Value → Heap → Prop} (H : betonyref18_Disc_local_S x0 x1 h R) : betonyref18_Disc_local_c x0 x1 h R := by
 unfold betonyref18_Disc_local_S at H
 refine runs_of (b := ⟨#[x0, x1, ud, ud, ud, ud, ud, ud, ud, ud, ud, ud], []⟩) Try.call48 Try.func48 rfl (by kernel_rfl) (fun w0 HA => ?_)
 refine wp_seq (lwp_list ?_)
 refine ls_assign (x := (.bool false)) (by kernel_rfl) (by kernel_rfl) ?_
 refine ls_nil (then_normal ?_)
 refine fr_eq (b := ⟨#[x0, x1, ud, ud, (.bool false), ud, ud, ud, ud, ud, ud, ud], []⟩) (by kernel_rfl) ?_
 refine wp_seq (lwp_list ?_)
 refine ls_move (x := x0) (by kernel_rfl) (by kernel_rfl) ?_
 refine ls_p (d := some 6) (by kernel_rfl) (by kernel_rfl) (p_nil (by kernel_rfl) H) (fun x6 H => ?_)
 refine ls_p (d := some 7) (by kernel_rfl) (by kernel_rfl) (p_off Try.underlying48 rfl (fun w => ⟨_, Try.sizeOf28 w⟩) rfl (by kernel_rfl) H) (fun x7 H => ?_)
 refine ls_p (d := some 8) (by kernel_rfl) (by kernel_rfl) (p_off Try.underlying28 rfl (fun w => ⟨_, Try.sizeOf3 w⟩) rfl (by kernel_rfl) H) (fun x8 H => ?_)
 refine ls_y (d := some 9) (by kernel_rfl) (by kernel_rfl) HA (y_ld Try.isAgg3 (by kernel_rfl) H) (fun x9 H => ?_)
 refine ls_move (x := x1) (by kernel_rfl) (by kernel_rfl) ?_
 refine ls_d (d := some 11) (by kernel_rfl) (by kernel_rfl) HA (d_call (by kernel_rfl) (by kernel_rfl) H) (fun x11 h w H HA => ?_)
 refine ls_assign (x := x11) (by kernel_rfl) (by kernel_rfl) ?_
 refine ls_nil (then_normal ?_)
 refine fr_eq (b := ⟨#[x0, x1, ud, ud, x11, x0, x6, x7, x8, x9, x1, x11], []⟩) (by kernel_rfl) ?_
 refine wp_ret ?_
 exact end1 (Try.results48) (by kernel_rfl) (by kernel_rfl) HA H _ (.inr rfl)

end Go.Proofs.Ytlcklnbgknhhkaa

end

section
/- The shallow reading of one function, and that the function does it. Written by a program. -/
set_option linter.unusedVariables false
namespace Go.Proofs.Ytlcklnbgknhhkaa
open Go Go.HW

def betonyref18_Disc_lost_S (x0 : Value) (h : Heap) (R : Value → Heap → Prop) : Prop :=
  betonyref18_Disc_in_c x0 (.int .i64 64) h fun x3 h => 
  sIf x3 (sSlit h #[.int .u8 0] [(0, 1, (.int .u8 7))] 5 1 fun x5 h_1 => 
  betonyref18_Disc_out_c x0 x5 h_1 fun x6 h_2 => 
  R unit h_2) (R unit h)
set_option maxRecDepth 100000 in
theorem betonyref18_Disc_lost_runs {x0 : Value} {h : Heap} {R : Value → Heap → Prop} (H : betonyref18_Disc_lost_S x0 h R) : betonyref18_Disc_lost_c x0 h R := by
 unfold betonyref18_Disc_lost_S at H
 refine runs_of (b := ⟨#[x0, ud, ud, ud, ud, ud, ud], []⟩) Try.call69 Try.func69 rfl (by kernel_rfl) (fun w0 HA => ?_)
 refine wp_seq (lwp_list ?_)
 refine ls_move (x := x0) (by kernel_rfl) (by kernel_rfl) ?_
 refine ls_d (d := some 3) (by kernel_rfl) (by kernel_rfl) HA (d_call (by kernel_rfl) (by kernel_rfl) H) (fun x3 h w H HA => ?_)
 refine ls_nil (then_normal ?_)
 refine fr_eq (b := ⟨#[x0, ud, x0, x3, ud, ud, ud], []⟩) (by kernel_rfl) ?_
 refine wp_if rfl H (fun H => ?_) (fun H => ?_)
 ·refine lwp_list ?_
  refine ls_move (x := x0) (by kernel_rfl) (by kernel_rfl) ?_
  refine ls_d (d := some 5) (by kernel_rfl) (by kernel_rfl) HA (d_slit (zc := #[.int .u8 0]) Try.underlying30 Try.sizeOf5 (by decide) (.inr ⟨by decide, _, Try.zeroValue5, (by kernel_rfl)⟩) (by kernel_rfl) (by kernel_rfl) H) (fun x5 h_1 w_1 H HA_1 => ?_)
  refine ls_d (d := some 6) (by kernel_rfl) (by kernel_rfl) HA_1 (d_call (by kernel_rfl) (by kernel_rfl) H) (fun x6 h_2 w_2 H HA_2 => ?_)
  refine ls_nil ?_
  exact end0 (Try.results69) (by kernel_rfl) HA_2 H _ (.inl rfl)
 ·refine wp_skip ?_
  exact end0 (Try.results69) (by kernel_rfl) HA H _ (.inl rfl)

end Go.Proofs.Ytlcklnbgknhhkaa

end

section
/- The shallow reading of one function, and that the function does it. Written by a program. -/
set_option linter.unusedVariables false
namespace Go.Proofs.Ytlcklnbgknhhkaa
open Go Go.HW

def betonyref18_Disc_out_S (x0 x1 : Value) (h : Heap) (R : Value → Heap → Prop) : Prop :=
  sSlit h #[] [] 5 0 fun x5 h => 
  sNil x0 fun x7 =>
  sOff x7 22 fun x8 =>
  sLd h x8 fun x9 =>
  sApp h x5 x9 #[.int .u8 0] 5 1 fun x10 h_1 => 
  sApp h_1 x10 x1 #[.int .u8 0] 5 1 fun x12 h_2 => 
  sNil x0 fun x13 =>
  sOff x13 22 fun x14 =>
  sSt h_2 x14 x12 fun h_3 => 
  R unit h_3
set_option maxRecDepth 100000 in
theorem betonyref18_Disc_out_runs {x0 x1 : Value} {h : Heap} {R : Value → Heap → Prop} (H : betonyref18_Disc_out_S x0 x1 h R) : betonyref18_Disc_out_c x0 x1 h R := by
 unfold betonyref18_Disc_out_S at H
 refine runs_of (b := ⟨#[x0, x1, ud, ud, ud, ud, ud, ud, ud, ud, ud, ud, ud, ud, ud], []⟩) Try.call50 Try.func50 rfl (by kernel_rfl) (fun w0 HA => ?_)
 refine lwp_list ?_
 refine ls_move (x := x0) (by kernel_rfl) (by kernel_rfl) ?_
 refine ls_d (d := some 5) (by kernel_rfl) (by kernel_rfl) HA (d_slit (zc := #[]) Try.underlying30 Try.sizeOf5 (by decide) (.inl ⟨(by kernel_rfl), (by kernel_rfl)⟩) (by kernel_rfl) (by kernel_rfl) H) (fun x5 h w H HA => ?_)
 refine ls_move (x := x0) (by kernel_rfl) (by kernel_rfl) ?_
 refine ls_p (d := some 7) (by kernel_rfl) (by kernel_rfl) (p_nil (by kernel_rfl) H) (fun x7 H => ?_)
 refine ls_p (d := some 8) (by kernel_rfl) (by kernel_rfl) (p_off Try.underlying48 rfl (fun w => ⟨_, Try.sizeOf30 w⟩) rfl (by kernel_rfl) H) (fun x8 H => ?_)
 refine ls_y (d := some 9) (by kernel_rfl) (by kernel_rfl) HA (y_ld Try.isAgg30 (by kernel_rfl) H) (fun x9 H => ?_)
 refine ls_fr (b := ⟨#[x0, x1, ud, ud, x0, x5, x0, x7, x8, x9, ud, ud, ud, ud, ud], []⟩) (by kernel_rfl) ?_
 refine ls_d (d := some 10) (by kernel_rfl) (by kernel_rfl) HA (d_app (z := #[.int .u8 0]) Try.underlying30 Try.underlying30 (.inl ⟨_, rfl⟩) Try.typeInfo5 (by kernel_rfl) Try.sizeOf5 Try.zeroValue5 (by kernel_rfl) (by kernel_rfl) (by kernel_rfl) H) (fun x10 h_1 w_1 H HA_1 => ?_)
 refine ls_move (x := x1) (by kernel_rfl) (by kernel_rfl) ?_
 refine ls_d (d := some 12) (by kernel_rfl) (by kernel_rfl) HA_1 (d_app (z := #[.int .u8 0]) Try.underlying30 Try.underlying30 (.inl ⟨_, rfl⟩) Try.typeInfo5 (by kernel_rfl) Try.sizeOf5 Try.zeroValue5 (by kernel_rfl) (by kernel_rfl) (by kernel_rfl) H) (fun x12 h_2 w_2 H HA_2 => ?_)
 refine ls_p (d := some 13) (by kernel_rfl) (by kernel_rfl) (p_nil (by kernel_rfl) H) (fun x13 H => ?_)
 refine ls_p (d := some 14) (by kernel_rfl) (by kernel_rfl) (p_off Try.underlying48 rfl (fun w => ⟨_, Try.sizeOf30 w⟩) rfl (by kernel_rfl) H) (fun x14 H => ?_)
 refine ls_d (d := none) (by kernel_rfl) (by kernel_rfl) HA_2 (d_st Try.sizeOf30 (by kernel_rfl) (by kernel_rfl) H) (fun _ h_3 w_3 H HA_3 => ?_)
 refine ls_nil ?_
 exact end0 (Try.results50) (by kernel_rfl) HA_3 H _ (.inl rfl)

end Go.Proofs.Ytlcklnbgknhhkaa

end

section
/- The shallow reading of one function, and that the function does it. Written by a program. -/
set_option linter.unusedVariables false
namespace Go.Proofs.Ytlcklnbgknhhkaa
open Go Go.HW

def betonyref18_Disc_picture_S (x0 x1 : Value) (h : Heap) (R : Value → Heap → Prop) : Prop :=
  betonyref18_Disc_local_c x0 (.int .i64 32) h fun x6 h => 
  sAnd x6 (fun k_1 =>
  sLt x1 (.int .u8 32) fun x9 =>
  sAnd x9 (fun k_3 =>
  sNe x1 (.int .u8 9) fun x12 =>
  k_3 x12) fun x13 =>
  sAnd x13 (fun k_2 =>
  sNe x1 (.int .u8 10) fun x16 =>
  k_2 x16) fun x17 =>
  k_1 x17) fun x18 =>
  sIf x18 (sAdd .u8 x1 (.int .u8 64) fun x20 =>
  sSlit h #[.int .u8 0, .int .u8 0] [(0, 1, (.int .u8 94)), (1, 1, x20)] 5 2 fun x21 h_1 => 
  R x21 h_1) (betonyref18_Disc_local_c x0 (.int .i64 32) h fun x23 h_2 => 
  sAnd x23 (fun k =>
  sEq x1 (.int .u8 127) fun x26 =>
  k x26) fun x27 =>
  sIf x27 (sSlit h_2 #[.int .u8 0, .int .u8 0] [(0, 1, (.int .u8 94)), (1, 1, (.int .u8 63))] 5 2 fun x28 h_3 => 
  R x28 h_3) (sSlit h_2 #[.int .u8 0] [(0, 1, x1)] 5 1 fun x30 h_4 => 
  R x30 h_4))
set_option maxRecDepth 100000 in
theorem betonyref18_Disc_picture_runs {x0 x1 : Value} {h : Heap} {R : Value → Heap → Prop} (H : betonyref18_Disc_picture_S x0 x1 h R) : betonyref18_Disc_picture_c x0 x1 h R := by
 unfold betonyref18_Disc_picture_S at H
 refine runs_of (b := ⟨#[x0, x1, ud, ud, ud, ud, ud, ud, ud, ud, ud, ud, ud, ud, ud, ud, ud, ud, ud, ud, ud, ud, ud, ud, ud, ud, ud, ud, ud, ud, ud], []⟩) Try.call71 Try.func71 rfl (by kernel_rfl) (fun w0 HA => ?_)
 refine wp_seq (lwp_list ?_)
 refine ls_assign (x := (.slice none 0 0)) (by kernel_rfl) (by kernel_rfl) ?_
 refine ls_nil (then_normal ?_)
 refine fr_eq (b := ⟨#[x0, x1, ud, ud, (.slice none 0 0), ud, ud, ud, ud, ud, ud, ud, ud, ud, ud, ud, ud, ud, ud, ud, ud, ud, ud, ud, ud, ud, ud, ud, ud, ud, ud], []⟩) (by kernel_rfl) ?_
 refine wp_seq ?_
 refine wp_seq (lwp_list ?_)
 refine ls_move (x := x0) (by kernel_rfl) (by kernel_rfl) ?_
 refine ls_d (d := some 6) (by kernel_rfl) (by kernel_rfl) HA (d_call (by kernel_rfl) (by kernel_rfl) H) (fun x6 h w H HA => ?_)
 refine ls_move (x := x6) (by kernel_rfl) (by kernel_rfl) ?_
 refine ls_and [(), (), (), (), (), (), (), (), (), (), ()] (fun K a w => ∃ (D : Nat → Value) (x18 : Value), a = ⟨#[x0, x1, ud, ud, (.slice none 0 0), x0, x6, x6, (D 0), (D 1), (D 2), (D 3), (D 4), (D 5), (D 6), (D 7), (D 8), (D 9), x18, ud, ud, ud, ud, ud, ud, ud, ud, ud, ud, ud, ud], []⟩ ∧ At w0 w h ∧ K x18) H (fun hb_1 H => ?_) (fun hb_1 H => ?_) ?_
 ·refine ls_move (x := x1) (by rw [hb_1]; kernel_rfl) (by kernel_rfl) ?_
  refine ls_p (d := some 9) (by kernel_rfl) (by rw [hb_1]; kernel_rfl) (p_sLt (by kernel_rfl) (by kernel_rfl) H) (fun x9 H => ?_)
  refine ls_move (x := x9) (by rw [hb_1]; kernel_rfl) (by kernel_rfl) ?_
  refine ls_fr (b := ⟨#[x0, x1, ud, ud, (.slice none 0 0), x0, x6, x6, x1, x9, x9, ud, ud, ud, ud, ud, ud, ud, ud, ud, ud, ud, ud, ud, ud, ud, ud, ud, ud, ud, ud], []⟩) (by kernel_rfl) ?_
  refine ls_and [(), (), ()] (fun K a w => ∃ (D_2 : Nat → Value) (x13 : Value), a = ⟨#[x0, x1, ud, ud, (.slice none 0 0), x0, x6, x6, x1, x9, x9, (D_2 0), (D_2 1), x13, ud, ud, ud, ud, ud, ud, ud, ud, ud, ud, ud, ud, ud, ud, ud, ud, ud], []⟩ ∧ At w0 w h ∧ K x13) H (fun hb_3 H => ?_) (fun hb_3 H => ?_) ?_
  ·refine ls_move (x := x1) (by rw [hb_3]; kernel_rfl) (by kernel_rfl) ?_
   refine ls_p (d := some 12) (by kernel_rfl) (by rw [hb_3]; kernel_rfl) (p_sNe (by kernel_rfl) (by kernel_rfl) H) (fun x12 H => ?_)
   refine ls_pick_t (x := x12) (by rw [hb_1]; kernel_rfl) (by rw [hb_3]; kernel_rfl) (by kernel_rfl) ?_
   refine ls_nil (then_normal ?_)
   exact ⟨(fun i => ([x1, x12]).getD i ud), x12, by kernel_rfl, HA, H⟩
  ·refine ls_skip (d := some 11) (by kernel_rfl) (by rw [hb_3]; kernel_rfl) ?_
   refine ls_skip (d := some 12) (by kernel_rfl) (by rw [hb_3]; kernel_rfl) ?_
   refine ls_pick_f (y := (.bool false)) (by rw [hb_1]; kernel_rfl) (by rw [hb_3]; kernel_rfl) (by kernel_rfl) ?_
   refine ls_nil (then_normal ?_)
   exact ⟨(fun i => ([ud, ud]).getD i ud), (.bool false), by kernel_rfl, HA, H⟩
  ·rintro _ w_7 ⟨D_2, x13, rfl, HA_7, H⟩
   refine ls_move (x := x13) (by rw [hb_1]; kernel_rfl) (by kernel_rfl) ?_
   refine ls_and [(), (), ()] (fun K a w => ∃ (D_3 : Nat → Value) (x17 : Value), a = ⟨#[x0, x1, ud, ud, (.slice none 0 0), x0, x6, x6, x1, x9, x9, (D_2 0), (D_2 1), x13, x13, (D_3 0), (D_3 1), x17, ud, ud, ud, ud, ud, ud, ud, ud, ud, ud, ud, ud, ud], []⟩ ∧ At w0 w h ∧ K x17) H (fun hb_2 H => ?_) (fun hb_2 H => ?_) ?_
   ·refine ls_move (x := x1) (by rw [hb_2]; kernel_rfl) (by kernel_rfl) ?_
    refine ls_p (d := some 16) (by kernel_rfl) (by rw [hb_2]; kernel_rfl) (p_sNe (by kernel_rfl) (by kernel_rfl) H) (fun x16 H => ?_)
    refine ls_pick_t (x := x16) (by rw [hb_1]; kernel_rfl) (by rw [hb_2]; kernel_rfl) (by kernel_rfl) ?_
    refine ls_nil (then_normal ?_)
    exact ⟨(fun i => ([x1, x16]).getD i ud), x16, by kernel_rfl, HA_7, H⟩
   ·refine ls_skip (d := some 15) (by kernel_rfl) (by rw [hb_2]; kernel_rfl) ?_
    refine ls_skip (d := some 16) (by kernel_rfl) (by rw [hb_2]; kernel_rfl) ?_
    refine ls_pick_f (y := (.bool false)) (by rw [hb_1]; kernel_rfl) (by rw [hb_2]; kernel_rfl) (by kernel_rfl) ?_
    refine ls_nil (then_normal ?_)
    exact ⟨(fun i => ([ud, ud]).getD i ud), (.bool false), by kernel_rfl, HA_7, H⟩
   ·rintro _ w_8 ⟨D_3, x17, rfl, HA_8, H⟩
    refine ls_pick_t (x := x17) (by kernel_rfl) (by rw [hb_1]; kernel_rfl) (by kernel_rfl) ?_
    refine ls_nil (then_normal ?_)
    exact ⟨(fun i => ([x1, x9, x9, (D_2 0), (D_2 1), x13, x13, (D_3 0), (D_3 1), x17]).getD i ud), x17, by kernel_rfl, HA_8, H⟩
 ·refine ls_skip (d := some 8) (by kernel_rfl) (by rw [hb_1]; kernel_rfl) ?_
  refine ls_skip (d := some 9) (by kernel_rfl) (by rw [hb_1]; kernel_rfl) ?_
  refine ls_skip (d := some 10) (by kernel_rfl) (by rw [hb_1]; kernel_rfl) ?_
  refine ls_fr (b := ⟨#[x0, x1, ud, ud, (.slice none 0 0), x0, x6, x6, ud, ud, ud, ud, ud, ud, ud, ud, ud, ud, ud, ud, ud, ud, ud, ud, ud, ud, ud, ud, ud, ud, ud], []⟩) (by kernel_rfl) ?_
  refine ls_skip (d := some 11) (by kernel_rfl) (by kernel_rfl) ?_
  refine ls_skip (d := some 12) (by kernel_rfl) (by kernel_rfl) ?_
  refine ls_skip (d := some 13) (by kernel_rfl) (by rw [hb_1]; kernel_rfl) ?_
  refine ls_skip (d := some 14) (by kernel_rfl) (by rw [hb_1]; kernel_rfl) ?_
  refine ls_skip (d := some 15) (by kernel_rfl) (by kernel_rfl) ?_
  refine ls_skip (d := some 16) (by kernel_rfl) (by kernel_rfl) ?_
  refine ls_fr (b := ⟨#[x0, x1, ud, ud, (.slice none 0 0), x0, x6, x6, ud, ud, ud, ud, ud, ud, ud, ud, ud, ud, ud, ud, ud, ud, ud, ud, ud, ud, ud, ud, ud, ud, ud], []⟩) (by kernel_rfl) ?_
  refine ls_skip (d := some 17) (by kernel_rfl) (by rw [hb_1]; kernel_rfl) ?_
  refine ls_pick_f (y := (.bool false)) (by kernel_rfl) (by rw [hb_1]; kernel_rfl) (by kernel_rfl) ?_
  refine ls_nil (then_normal ?_)
  exact ⟨(fun i => (Ap [] 10).getD i ud), (.bool false), by kernel_rfl, HA, H⟩
 ·rintro _ w_1 ⟨D, x18, rfl, HA_1, H⟩
  refine ls_nil (then_normal ?_)
  refine fr_eq (b := ⟨#[x0, x1, ud, ud, (.slice none 0 0), x0, x6, x6, (D 0), (D 1), (D 2), (D 3), (D 4), (D 5), (D 6), (D 7), (D 8), (D 9), x18, ud, ud, ud, ud, ud, ud, ud, ud, ud, ud, ud, ud], []⟩) (by kernel_rfl) ?_
  refine wp_if rfl H (fun H => ?_) (fun H => ?_)
  ·refine wp_seq (lwp_list ?_)
   refine ls_move (x := x1) (by kernel_rfl) (by kernel_rfl) ?_
   refine ls_p (d := some 20) (by kernel_rfl) (by kernel_rfl) (p_add (by kernel_rfl) (by kernel_rfl) H) (fun x20 H => ?_)
   refine ls_d (d := some 21) (by kernel_rfl) (by kernel_rfl) HA_1 (d_slit (zc := #[.int .u8 0]) Try.underlying30 Try.sizeOf5 (by decide) (.inr ⟨by decide, _, Try.zeroValue5, (by kernel_rfl)⟩) (by kernel_rfl) (by kernel_rfl) H) (fun x21 h_1 w_2 H HA_2 => ?_)
   refine ls_assign (x := x21) (by kernel_rfl) (by kernel_rfl) ?_
   refine ls_nil (then_normal ?_)
   refine fr_eq (b := ⟨#[x0, x1, ud, ud, x21, x0, x6, x6, (D 0), (D 1), (D 2), (D 3), (D 4), (D 5), (D 6), (D 7), (D 8), (D 9), x18, x1, x20, x21, ud, ud, ud, ud, ud, ud, ud, ud, ud], []⟩) (by kernel_rfl) ?_
   refine wp_ret ?_
   refine then_ret ?_
   exact end1 (Try.results71) (by kernel_rfl) (by kernel_rfl) HA_2 H _ (.inr rfl)
  ·refine wp_skip ?_
   refine then_normal ?_
   refine fr_eq (b := ⟨#[x0, x1, ud, ud, (.slice none 0 0), x0, x6, x6, (D 0), (D 1), (D 2), (D 3), (D 4), (D 5), (D 6), (D 7), (D 8), (D 9), x18, ud, ud, ud, ud, ud, ud, ud, ud, ud, ud, ud, ud], []⟩) (by kernel_rfl) ?_
   refine wp_seq ?_
   refine wp_seq (lwp_list ?_)
   refine ls_move (x := x0) (by kernel_rfl) (by kernel_rfl) ?_
   refine ls_d (d := some 23) (by kernel_rfl) (by kernel_rfl) HA_1 (d_call (by kernel_rfl) (by kernel_rfl) H) (fun x23 h_2 w_3 H HA_3 => ?_)
   refine ls_move (x := x23) (by kernel_rfl) (by kernel_rfl) ?_
   refine ls_and [(), (), ()] (fun K a w => ∃ (D_1 : Nat → Value) (x27 : Value), a = ⟨#[x0, x1, ud, ud, (.slice none 0 0), x0, x6, x6, (D 0), (D 1), (D 2), (D 3), (D 4), (D 5), (D 6), (D 7), (D 8), (D 9), x18, ud, ud, ud, x0, x23, x23, (D_1 0), (D_1 1), x27, ud, ud, ud], []⟩ ∧ At w0 w h_2 ∧ K x27) H (fun hb H => ?_) (fun hb H => ?_) ?_
   ·refine ls_move (x := x1) (by rw [hb]; kernel_rfl) (by kernel_rfl) ?_
    refine ls_p (d := some 26) (by kernel_rfl) (by rw [hb]; kernel_rfl) (p_sEq (by kernel_rfl) (by kernel_rfl) H) (fun x26 H => ?_)
    refine ls_pick_t (x := x26) (by kernel_rfl) (by rw [hb]; kernel_rfl) (by kernel_rfl) ?_
    refine ls_nil (then_normal ?_)
    exact ⟨(fun i => ([x1, x26]).getD i ud), x26, by kernel_rfl, HA_3, H⟩
   ·refine ls_skip (d := some 25) (by kernel_rfl) (by rw [hb]; kernel_rfl) ?_
    refine ls_skip (d := some 26) (by kernel_rfl) (by rw [hb]; kernel_rfl) ?_
    refine ls_pick_f (y := (.bool false)) (by kernel_rfl) (by rw [hb]; kernel_rfl) (by kernel_rfl) ?_
    refine ls_nil (then_normal ?_)
    exact ⟨(fun i => ([ud, ud]).getD i ud), (.bool false), by kernel_rfl, HA_3, H⟩
   ·rintro _ w_4 ⟨D_1, x27, rfl, HA_4, H⟩
    refine ls_nil (then_normal ?_)
    refine fr_eq (b := ⟨#[x0, x1, ud, ud, (.slice none 0 0), x0, x6, x6, (D 0), (D 1), (D 2), (D 3), (D 4), (D 5), (D 6), (D 7), (D 8), (D 9), x18, ud, ud, ud, x0, x23, x23, (D_1 0), (D_1 1), x27, ud, ud, ud], []⟩) (by kernel_rfl) ?_
    refine wp_if rfl H (fun H => ?_) (fun H => ?_)
    ·refine wp_seq (lwp_list ?_)
     refine ls_d (d := some 28) (by kernel_rfl) (by kernel_rfl) HA_4 (d_slit (zc := #[.int .u8 0]) Try.underlying30 Try.sizeOf5 (by decide) (.inr ⟨by decide, _, Try.zeroValue5, (by kernel_rfl)⟩) (by kernel_rfl) (by kernel_rfl) H) (fun x28 h_3 w_5 H HA_5 => ?_)
     refine ls_assign (x := x28) (by kernel_rfl) (by kernel_rfl) ?_
     refine ls_nil (then_normal ?_)
     refine fr_eq (b := ⟨#[x0, x1, ud, ud, x28, x0, x6, x6, (D 0), (D 1), (D 2), (D 3), (D 4), (D 5), (D 6), (D 7), (D 8), (D 9), x18, ud, ud, ud, x0, x23, x23, (D_1 0), (D_1 1), x27, x28, ud, ud], []⟩) (by kernel_rfl) ?_
     refine wp_ret ?_
     refine then_ret ?_
     exact end1 (Try.results71) (by kernel_rfl) (by kernel_rfl) HA_5 H _ (.inr rfl)
    ·refine wp_skip ?_
     refine then_normal ?_
     refine fr_eq (b := ⟨#[x0, x1, ud, ud, (.slice none 0 0), x0, x6, x6, (D 0), (D 1), (D 2), (D 3), (D 4), (D 5), (D 6), (D 7), (D 8), (D 9), x18, ud, ud, ud, x0, x23, x23, (D_1 0), (D_1 1), x27, ud, ud, ud], []⟩) (by kernel_rfl) ?_
     refine wp_seq (lwp_list ?_)
     refine ls_move (x := x1) (by kernel_rfl) (by kernel_rfl) ?_
     refine ls_d (d := some 30) (by kernel_rfl) (by kernel_rfl) HA_4 (d_slit (zc := #[.int .u8 0]) Try.underlying30 Try.sizeOf5 (by decide) (.inr ⟨by decide, _, Try.zeroValue5, (by kernel_rfl)⟩) (by kernel_rfl) (by kernel_rfl) H) (fun x30 h_4 w_6 H HA_6 => ?_)
     refine ls_assign (x := x30) (by kernel_rfl) (by kernel_rfl) ?_
     refine ls_nil (then_normal ?_)
     refine fr_eq (b := ⟨#[x0, x1, ud, ud, x30, x0, x6, x6, (D 0), (D 1), (D 2), (D 3), (D 4), (D 5), (D 6), (D 7), (D 8), (D 9), x18, ud, ud, ud, x0, x23, x23, (D_1 0), (D_1 1), x27, ud, x1, x30], []⟩) (by kernel_rfl) ?_
     refine wp_ret ?_
     exact end1 (Try.results71) (by kernel_rfl) (by kernel_rfl) HA_6 H _ (.inr rfl)

end Go.Proofs.Ytlcklnbgknhhkaa

end

section
/- The shallow reading of one function, and that the function does it. Written by a program. -/
set_option linter.unusedVariables false
namespace Go.Proofs.Ytlcklnbgknhhkaa
open Go Go.HW

def betonyref18_Disc_put_j2 (R : Value → Heap → Prop) (x0 x1 : Value) (h_9 : Heap) : Prop :=
  betonyref18_Disc_show_c x0 x1 h_9 fun x98 h_10 => 
  R (.bool true) h_10
def betonyref18_Disc_put_j1 (R : Value → Heap → Prop) (x0 x1 : Value) (h_5 : Heap) : Prop :=
  sEq x1 (.int .u8 10) fun x79 =>
  sAndH x79 h_5 (fun k_2 =>
  betonyref18_Disc_local_c x0 (.int .i64 1) h_5 fun x82 h_15 => 
  k_2 x82 h_15) fun x83 h_6 =>
  sAndH x83 h_6 (fun k_1 =>
  betonyref18_Disc_local_c x0 (.int .i64 16) h_6 fun x86 h_14 => 
  k_1 x86 h_14) fun x87 h_7 =>
  sAndH x87 h_7 (fun k =>
  betonyref18_Disc_local_c x0 (.int .i64 2) h_7 fun x90 h_13 => 
  sNot x90 fun x91 =>
  k x91 h_13) fun x92 h_8 =>
  sIf x92 (sSlit h_8 #[.int .u8 0] [(0, 1, (.int .u8 10))] 5 1 fun x94 h_11 => 
  betonyref18_Disc_out_c x0 x94 h_11 fun x95 h_12 => 
  betonyref18_Disc_put_j2 R x0 x1 h_12) (betonyref18_Disc_put_j2 R x0 x1 h_8)
def betonyref18_Disc_put_S (x0 x1 : Value) (h : Heap) (R : Value → Heap → Prop) : Prop :=
  sEq x1 (.int .u8 10) fun x8 =>
  sOrH x8 h (fun k_8 =>
  betonyref18_Disc_is_c x0 (.int .i64 4) x1 h fun x12 h_27 => 
  k_8 x12 h_27) fun x13 h =>
  betonyref18_Disc_local_c x0 (.int .i64 1) h fun x15 h_1 => 
  sAnd x15 (fun k_5 =>
  sNil x0 fun x18 =>
  sOff x18 17 fun x19 =>
  sLd h_1 x19 fun x20 =>
  sLen x20 fun x21 =>
  sLt x21 (.int .i64 254) fun x22 =>
  sOr x22 (fun k_6 =>
  sAnd x13 (fun k_7 =>
  sNil x0 fun x27 =>
  sOff x27 17 fun x28 =>
  sLd h_1 x28 fun x29 =>
  sLen x29 fun x30 =>
  sLt x30 (.int .i64 255) fun x31 =>
  k_7 x31) fun x32 =>
  k_6 x32) fun x33 =>
  k_5 x33) fun x34 =>
  sOrH x34 h_1 (fun k_3 =>
  betonyref18_Disc_local_c x0 (.int .i64 1) h_1 fun x37 h_26 => 
  sNot x37 fun x38 =>
  sAnd x38 (fun k_4 =>
  sNil x0 fun x41 =>
  sOff x41 19 fun x42 =>
  sLd h_26 x42 fun x43 =>
  sLen x43 fun x44 =>
  sLt x44 (.int .i64 1024) fun x45 =>
  k_4 x45) fun x46 =>
  k_3 x46 h_26) fun x47 h_2 =>
  sNot x47 fun x49 =>
  sIf x49 (betonyref18_Disc_lost_c x0 h_2 fun x51 h_3 => 
  R (.bool false) h_3) (betonyref18_Disc_local_c x0 (.int .i64 1) h_2 fun x53 h_4 => 
  sIf x53 (sSlit h_4 #[] [] 5 0 fun x55 h_16 => 
  sNil x0 fun x57 =>
  sOff x57 17 fun x58 =>
  sLd h_16 x58 fun x59 =>
  sApp h_16 x55 x59 #[.int .u8 0] 5 1 fun x60 h_17 => 
  sSlit h_17 #[.int .u8 0] [(0, 1, x1)] 5 1 fun x62 h_18 => 
  sApp h_18 x60 x62 #[.int .u8 0] 5 1 fun x63 h_19 => 
  sNil x0 fun x64 =>
  sOff x64 17 fun x65 =>
  sSt h_19 x65 x63 fun h_20 => 
  betonyref18_Disc_put_j1 R x0 x1 h_20) (sSlit h_4 #[] [] 5 0 fun x67 h_21 => 
  sNil x0 fun x69 =>
  sOff x69 19 fun x70 =>
  sLd h_21 x70 fun x71 =>
  sApp h_21 x67 x71 #[.int .u8 0] 5 1 fun x72 h_22 => 
  sSlit h_22 #[.int .u8 0] [(0, 1, x1)] 5 1 fun x74 h_23 => 
  sApp h_23 x72 x74 #[.int .u8 0] 5 1 fun x75 h_24 => 
  sNil x0 fun x76 =>
  sOff x76 19 fun x77 =>
  sSt h_24 x77 x75 fun h_25 => 
  betonyref18_Disc_put_j1 R x0 x1 h_25))
set_option maxRecDepth 100000 in
theorem betonyref18_Disc_put_runs {x0 x1 : Value} {h : Heap} {R : Value → Heap → Prop} (H : betonyref18_Disc_put_S x0 x1 h R) : betonyref18_Disc_put_c x0 x1 h R := by
 unfold betonyref18_Disc_put_S at H
 refine runs_of (b := ⟨(Ap [x0, x1] 97).toArray, []⟩) Try.call45 Try.func45 rfl (by kernel_rfl) (fun w0 HA => ?_)
 refine wp_seq (lwp_list ?_)
 refine ls_assign (x := (.bool false)) (by kernel_rfl) (by kernel_rfl) ?_
 refine ls_nil (then_normal ?_)
 refine fr_eq (b := ⟨(Ap [x0, x1, ud, ud, (.bool false)] 94).toArray, []⟩) (by kernel_rfl) ?_
 refine wp_seq (lwp_list ?_)
 refine ls_move (x := x1) (by kernel_rfl) (by kernel_rfl) ?_
 refine ls_p (d := some 8) (by kernel_rfl) (by kernel_rfl) (p_sEq (by kernel_rfl) (by kernel_rfl) H) (fun x8 H => ?_)
 refine ls_move (x := x8) (by kernel_rfl) (by kernel_rfl) ?_
 refine ls_orh [(), (), (), ()] (fun K a w => ∃ (D : Nat → Value) (x13 : Value) (h : Heap), a = ⟨(Ap [x0, x1, ud, ud, (.bool false), ud, ud, x1, x8, x8, (D 0), (D 1), (D 2), x13] 85).toArray, []⟩ ∧ At w0 w h ∧ K x13 h) H (fun hb_8 H => ?_) (fun hb_8 H => ?_) ?_
 ·refine ls_move (x := x0) (by rw [hb_8]; kernel_rfl) (by kernel_rfl) ?_
  refine ls_move (x := x1) (by rw [hb_8]; kernel_rfl) (by kernel_rfl) ?_
  refine ls_d (d := some 12) (by kernel_rfl) (by rw [hb_8]; kernel_rfl) HA (d_call (by kernel_rfl) (by kernel_rfl) H) (fun x12 h_27 w_31 H HA_31 => ?_)
  refine ls_fr (b := ⟨(Ap [x0, x1, ud, ud, (.bool false), ud, ud, x1, x8, x8, x0, x1, x12] 86).toArray, []⟩) (by kernel_rfl) ?_
  refine ls_pick_f (y := x12) (by kernel_rfl) (by rw [hb_8]; kernel_rfl) (by kernel_rfl) ?_
  refine ls_nil (then_normal ?_)
  exact ⟨(fun i => ([x0, x1, x12]).getD i ud), x12, h_27, by kernel_rfl, HA_31, H⟩
 ·refine ls_skip (d := some 10) (by kernel_rfl) (by rw [hb_8]; kernel_rfl) ?_
  refine ls_skip (d := some 11) (by kernel_rfl) (by rw [hb_8]; kernel_rfl) ?_
  refine ls_skip (d := some 12) (by kernel_rfl) (by rw [hb_8]; kernel_rfl) ?_
  refine ls_fr (b := ⟨(Ap [x0, x1, ud, ud, (.bool false), ud, ud, x1, x8, x8] 89).toArray, []⟩) (by kernel_rfl) ?_
  refine ls_pick_t (x := (.bool true)) (by kernel_rfl) (by rw [hb_8]; kernel_rfl) (by kernel_rfl) ?_
  refine ls_nil (then_normal ?_)
  exact ⟨(fun i => ([ud, ud, ud]).getD i ud), (.bool true), h, by kernel_rfl, HA, H⟩
 ·rintro _ w ⟨D, x13, h, rfl, HA, H⟩
  refine ls_assign (x := x13) (by kernel_rfl) (by kernel_rfl) ?_
  refine ls_nil (then_normal ?_)
  refine fr_eq (b := ⟨(Ap [x0, x1, ud, ud, (.bool false), x13, ud, x1, x8, x8, (D 0), (D 1), (D 2), x13] 85).toArray, []⟩) (by kernel_rfl) ?_
  refine wp_seq (lwp_list ?_)
  refine ls_move (x := x0) (by kernel_rfl) (by kernel_rfl) ?_
  refine ls_d (d := some 15) (by kernel_rfl) (by kernel_rfl) HA (d_call (by kernel_rfl) (by kernel_rfl) H) (fun x15 h_1 w_1 H HA_1 => ?_)
  refine ls_move (x := x15) (by kernel_rfl) (by kernel_rfl) ?_
  refine ls_and [(), (), (), (), (), (), (), (), (), (), (), (), (), (), (), (), (), ()] (fun K a w => ∃ (D_1 : Nat → Value) (x34 : Value), a = ⟨([x0, x1, ud, ud, (.bool false), x13, ud, x1, x8, x8, (D 0), (D 1), (D 2), x13, x0, x15, x15] ++ (Ad D_1 0 17 (Ap [x34] 64))).toArray, []⟩ ∧ At w0 w h_1 ∧ K x34) H (fun hb_5 H => ?_) (fun hb_5 H => ?_) ?_
  ·refine ls_move (x := x0) (by rw [hb_5]; kernel_rfl) (by kernel_rfl) ?_
   refine ls_p (d := some 18) (by kernel_rfl) (by rw [hb_5]; kernel_rfl) (p_nil (by kernel_rfl) H) (fun x18 H => ?_)
   refine ls_p (d := some 19) (by kernel_rfl) (by rw [hb_5]; kernel_rfl) (p_off Try.underlying48 rfl (fun w => ⟨_, Try.sizeOf30 w⟩) rfl (by kernel_rfl) H) (fun x19 H => ?_)
   refine ls_fr (b := ⟨(Ap [x0, x1, ud, ud, (.bool false), x13, ud, x1, x8, x8, (D 0), (D 1), (D 2), x13, x0, x15, x15, x0, x18, x19] 79).toArray, []⟩) (by kernel_rfl) ?_
   refine ls_y (d := some 20) (by kernel_rfl) (by rw [hb_5]; kernel_rfl) HA_1 (y_ld Try.isAgg30 (by kernel_rfl) H) (fun x20 H => ?_)
   refine ls_p (d := some 21) (by kernel_rfl) (by rw [hb_5]; kernel_rfl) (p_len Try.underlying30 (by kernel_rfl) H) (fun x21 H => ?_)
   refine ls_p (d := some 22) (by kernel_rfl) (by rw [hb_5]; kernel_rfl) (p_sLt (by kernel_rfl) (by kernel_rfl) H) (fun x22 H => ?_)
   refine ls_move (x := x22) (by rw [hb_5]; kernel_rfl) (by kernel_rfl) ?_
   refine ls_or [(), (), (), (), (), (), (), (), (), ()] (fun K a w => ∃ (D_9 : Nat → Value) (x33 : Value), a = ⟨([x0, x1, ud, ud, (.bool false), x13, ud, x1, x8, x8, (D 0), (D 1), (D 2), x13, x0, x15, x15, x0, x18, x19, x20, x21, x22, x22] ++ (Ad D_9 0 9 (Ap [x33] 65))).toArray, []⟩ ∧ At w0 w h_1 ∧ K x33) H (fun hb_6 H => ?_) (fun hb_6 H => ?_) ?_
   ·refine ls_move (x := x13) (by rw [hb_6]; kernel_rfl) (by kernel_rfl) ?_
    refine ls_move (x := x13) (by rw [hb_6]; kernel_rfl) (by kernel_rfl) ?_
    refine ls_fr (b := ⟨(Ap [x0, x1, ud, ud, (.bool false), x13, ud, x1, x8, x8, (D 0), (D 1), (D 2), x13, x0, x15, x15, x0, x18, x19, x20, x21, x22, x22, x13, x13] 73).toArray, []⟩) (by kernel_rfl) ?_
    refine ls_and [(), (), (), (), (), (), ()] (fun K a w => ∃ (D_10 : Nat → Value) (x32 : Value), a = ⟨([x0, x1, ud, ud, (.bool false), x13, ud, x1, x8, x8, (D 0), (D 1), (D 2), x13, x0, x15, x15, x0, x18, x19, x20, x21, x22, x22, x13, x13] ++ (Ad D_10 0 6 (Ap [x32] 66))).toArray, []⟩ ∧ At w0 w h_1 ∧ K x32) H (fun hb_7 H => ?_) (fun hb_7 H => ?_) ?_
    ·refine ls_move (x := x0) (by rw [hb_7]; kernel_rfl) (by kernel_rfl) ?_
     refine ls_p (d := some 27) (by kernel_rfl) (by rw [hb_7]; kernel_rfl) (p_nil (by kernel_rfl) H) (fun x27 H => ?_)
     refine ls_p (d := some 28) (by kernel_rfl) (by rw [hb_7]; kernel_rfl) (p_off Try.underlying48 rfl (fun w => ⟨_, Try.sizeOf30 w⟩) rfl (by kernel_rfl) H) (fun x28 H => ?_)
     refine ls_y (d := some 29) (by kernel_rfl) (by rw [hb_7]; kernel_rfl) HA_1 (y_ld Try.isAgg30 (by kernel_rfl) H) (fun x29 H => ?_)
     refine ls_p (d := some 30) (by kernel_rfl) (by rw [hb_7]; kernel_rfl) (p_len Try.underlying30 (by kernel_rfl) H) (fun x30 H => ?_)
     refine ls_p (d := some 31) (by kernel_rfl) (by rw [hb_7]; kernel_rfl) (p_sLt (by kernel_rfl) (by kernel_rfl) H) (fun x31 H => ?_)
     refine ls_fr (b := ⟨(Ap [x0, x1, ud, ud, (.bool false), x13, ud, x1, x8, x8, (D 0), (D 1), (D 2), x13, x0, x15, x15, x0, x18, x19, x20, x21, x22, x22, x13, x13, x0, x27, x28, x29, x30, x31] 67).toArray, []⟩) (by kernel_rfl) ?_
     refine ls_pick_t (x := x31) (by rw [hb_6]; kernel_rfl) (by rw [hb_7]; kernel_rfl) (by kernel_rfl) ?_
     refine ls_nil (then_normal ?_)
     exact ⟨(fun i => ([x0, x27, x28, x29, x30, x31]).getD i ud), x31, by kernel_rfl, HA_1, H⟩
    ·refine ls_skip (d := some 26) (by kernel_rfl) (by rw [hb_7]; kernel_rfl) ?_
     refine ls_skip (d := some 27) (by kernel_rfl) (by rw [hb_7]; kernel_rfl) ?_
     refine ls_skip (d := some 28) (by kernel_rfl) (by rw [hb_7]; kernel_rfl) ?_
     refine ls_skip (d := some 29) (by kernel_rfl) (by rw [hb_7]; kernel_rfl) ?_
     refine ls_skip (d := some 30) (by kernel_rfl) (by rw [hb_7]; kernel_rfl) ?_
     refine ls_skip (d := some 31) (by kernel_rfl) (by rw [hb_7]; kernel_rfl) ?_
     refine ls_fr (b := ⟨(Ap [x0, x1, ud, ud, (.bool false), x13, ud, x1, x8, x8, (D 0), (D 1), (D 2), x13, x0, x15, x15, x0, x18, x19, x20, x21, x22, x22, x13, x13] 73).toArray, []⟩) (by kernel_rfl) ?_
     refine ls_pick_f (y := (.bool false)) (by rw [hb_6]; kernel_rfl) (by rw [hb_7]; kernel_rfl) (by kernel_rfl) ?_
     refine ls_nil (then_normal ?_)
     exact ⟨(fun i => (Ap [] 6).getD i ud), (.bool false), by kernel_rfl, HA_1, H⟩
    ·rintro _ w_30 ⟨D_10, x32, rfl, HA_30, H⟩
     refine ls_pick_f (y := x32) (by rw [hb_5]; kernel_rfl) (by rw [hb_6]; kernel_rfl) (by kernel_rfl) ?_
     refine ls_nil (then_normal ?_)
     exact ⟨(fun i => ([x13, x13] ++ (Ad D_10 0 6 [x32])).getD i ud), x32, by kernel_rfl, HA_30, H⟩
   ·refine ls_skip (d := some 24) (by kernel_rfl) (by rw [hb_6]; kernel_rfl) ?_
    refine ls_skip (d := some 25) (by kernel_rfl) (by rw [hb_6]; kernel_rfl) ?_
    refine ls_fr (b := ⟨(Ap [x0, x1, ud, ud, (.bool false), x13, ud, x1, x8, x8, (D 0), (D 1), (D 2), x13, x0, x15, x15, x0, x18, x19, x20, x21, x22, x22] 75).toArray, []⟩) (by kernel_rfl) ?_
    refine ls_skip (d := some 26) (by kernel_rfl) (by kernel_rfl) ?_
    refine ls_skip (d := some 27) (by kernel_rfl) (by kernel_rfl) ?_
    refine ls_skip (d := some 28) (by kernel_rfl) (by kernel_rfl) ?_
    refine ls_skip (d := some 29) (by kernel_rfl) (by kernel_rfl) ?_
    refine ls_skip (d := some 30) (by kernel_rfl) (by kernel_rfl) ?_
    refine ls_skip (d := some 31) (by kernel_rfl) (by kernel_rfl) ?_
    refine ls_fr (b := ⟨(Ap [x0, x1, ud, ud, (.bool false), x13, ud, x1, x8, x8, (D 0), (D 1), (D 2), x13, x0, x15, x15, x0, x18, x19, x20, x21, x22, x22] 75).toArray, []⟩) (by kernel_rfl) ?_
    refine ls_skip (d := some 32) (by kernel_rfl) (by rw [hb_6]; kernel_rfl) ?_
    refine ls_pick_t (x := (.bool true)) (by rw [hb_5]; kernel_rfl) (by rw [hb_6]; kernel_rfl) (by kernel_rfl) ?_
    refine ls_nil (then_normal ?_)
    exact ⟨(fun i => (Ap [] 9).getD i ud), (.bool true), by kernel_rfl, HA_1, H⟩
   ·rintro _ w_29 ⟨D_9, x33, rfl, HA_29, H⟩
    refine ls_pick_t (x := x33) (by kernel_rfl) (by rw [hb_5]; kernel_rfl) (by kernel_rfl) ?_
    refine ls_nil (then_normal ?_)
    exact ⟨(fun i => ([x0, x18, x19, x20, x21, x22, x22] ++ (Ad D_9 0 9 [x33])).getD i ud), x33, by kernel_rfl, HA_29, H⟩
  ·refine ls_skip (d := some 17) (by kernel_rfl) (by rw [hb_5]; kernel_rfl) ?_
   refine ls_skip (d := some 18) (by kernel_rfl) (by rw [hb_5]; kernel_rfl) ?_
   refine ls_skip (d := some 19) (by kernel_rfl) (by rw [hb_5]; kernel_rfl) ?_
   refine ls_fr (b := ⟨(Ap [x0, x1, ud, ud, (.bool false), x13, ud, x1, x8, x8, (D 0), (D 1), (D 2), x13, x0, x15, x15] 82).toArray, []⟩) (by kernel_rfl) ?_
   refine ls_skip (d := some 20) (by kernel_rfl) (by rw [hb_5]; kernel_rfl) ?_
   refine ls_skip (d := some 21) (by kernel_rfl) (by rw [hb_5]; kernel_rfl) ?_
   refine ls_skip (d := some 22) (by kernel_rfl) (by rw [hb_5]; kernel_rfl) ?_
   refine ls_skip (d := some 23) (by kernel_rfl) (by rw [hb_5]; kernel_rfl) ?_
   refine ls_skip (d := some 24) (by kernel_rfl) (by kernel_rfl) ?_
   refine ls_skip (d := some 25) (by kernel_rfl) (by kernel_rfl) ?_
   refine ls_fr (b := ⟨(Ap [x0, x1, ud, ud, (.bool false), x13, ud, x1, x8, x8, (D 0), (D 1), (D 2), x13, x0, x15, x15] 82).toArray, []⟩) (by kernel_rfl) ?_
   refine ls_skip (d := some 26) (by kernel_rfl) (by kernel_rfl) ?_
   refine ls_skip (d := some 27) (by kernel_rfl) (by kernel_rfl) ?_
   refine ls_skip (d := some 28) (by kernel_rfl) (by kernel_rfl) ?_
   refine ls_skip (d := some 29) (by kernel_rfl) (by kernel_rfl) ?_
   refine ls_skip (d := some 30) (by kernel_rfl) (by kernel_rfl) ?_
   refine ls_skip (d := some 31) (by kernel_rfl) (by kernel_rfl) ?_
   refine ls_fr (b := ⟨(Ap [x0, x1, ud, ud, (.bool false), x13, ud, x1, x8, x8, (D 0), (D 1), (D 2), x13, x0, x15, x15] 82).toArray, []⟩) (by kernel_rfl) ?_
   refine ls_skip (d := some 32) (by kernel_rfl) (by kernel_rfl) ?_
   refine ls_skip (d := some 33) (by kernel_rfl) (by rw [hb_5]; kernel_rfl) ?_
   refine ls_pick_f (y := (.bool false)) (by kernel_rfl) (by rw [hb_5]; kernel_rfl) (by kernel_rfl) ?_
   refine ls_nil (then_normal ?_)
   exact ⟨(fun i => (Ap [] 17).getD i ud), (.bool false), by kernel_rfl, HA_1, H⟩
  ·rintro _ w_2 ⟨D_1, x34, rfl, HA_2, H⟩
   refine ls_move (x := x34) (by kernel_rfl) (by kernel_rfl) ?_
   refine ls_orh [(), (), (), (), (), (), (), (), (), (), (), ()] (fun K a w => ∃ (D_2 : Nat → Value) (x47 : Value) (h_2 : Heap), a = ⟨([x0, x1, ud, ud, (.bool false), x13, ud, x1, x8, x8, (D 0), (D 1), (D 2), x13, x0, x15, x15] ++ (Ad D_1 0 17 ([x34, x34] ++ (Ad D_2 0 11 (Ap [x47] 51))))).toArray, []⟩ ∧ At w0 w h_2 ∧ K x47 h_2) H (fun hb_3 H => ?_) (fun hb_3 H => ?_) ?_
   ·refine ls_move (x := x0) (by rw [hb_3]; kernel_rfl) (by kernel_rfl) ?_
    refine ls_d (d := some 37) (by kernel_rfl) (by rw [hb_3]; kernel_rfl) HA_2 (d_call (by kernel_rfl) (by kernel_rfl) H) (fun x37 h_26 w_27 H HA_27 => ?_)
    refine ls_p (d := some 38) (by kernel_rfl) (by rw [hb_3]; kernel_rfl) (p_not (by kernel_rfl) H) (fun x38 H => ?_)
    refine ls_move (x := x38) (by rw [hb_3]; kernel_rfl) (by kernel_rfl) ?_
    refine ls_and [(), (), (), (), (), (), ()] (fun K a w => ∃ (D_8 : Nat → Value) (x46 : Value), a = ⟨([x0, x1, ud, ud, (.bool false), x13, ud, x1, x8, x8, (D 0), (D 1), (D 2), x13, x0, x15, x15] ++ (Ad D_1 0 17 ([x34, x34, x0, x37, x38, x38] ++ (Ad D_8 0 6 (Ap [x46] 52))))).toArray, []⟩ ∧ At w0 w h_26 ∧ K x46) H (fun hb_4 H => ?_) (fun hb_4 H => ?_) ?_
    ·refine ls_move (x := x0) (by rw [hb_4]; kernel_rfl) (by kernel_rfl) ?_
     refine ls_fr (b := ⟨([x0, x1, ud, ud, (.bool false), x13, ud, x1, x8, x8, (D 0), (D 1), (D 2), x13, x0, x15, x15] ++ (Ad D_1 0 17 (Ap [x34, x34, x0, x37, x38, x38, x0] 58))).toArray, []⟩) (by kernel_rfl) ?_
     refine ls_p (d := some 41) (by kernel_rfl) (by rw [hb_4]; kernel_rfl) (p_nil (by kernel_rfl) H) (fun x41 H => ?_)
     refine ls_p (d := some 42) (by kernel_rfl) (by rw [hb_4]; kernel_rfl) (p_off Try.underlying48 rfl (fun w => ⟨_, Try.sizeOf30 w⟩) rfl (by kernel_rfl) H) (fun x42 H => ?_)
     refine ls_y (d := some 43) (by kernel_rfl) (by rw [hb_4]; kernel_rfl) HA_27 (y_ld Try.isAgg30 (by kernel_rfl) H) (fun x43 H => ?_)
     refine ls_p (d := some 44) (by kernel_rfl) (by rw [hb_4]; kernel_rfl) (p_len Try.underlying30 (by kernel_rfl) H) (fun x44 H => ?_)
     refine ls_p (d := some 45) (by kernel_rfl) (by rw [hb_4]; kernel_rfl) (p_sLt (by kernel_rfl) (by kernel_rfl) H) (fun x45 H => ?_)
     refine ls_pick_t (x := x45) (by rw [hb_3]; kernel_rfl) (by rw [hb_4]; kernel_rfl) (by kernel_rfl) ?_
     refine ls_nil (then_normal ?_)
     exact ⟨(fun i => ([x0, x41, x42, x43, x44, x45]).getD i ud), x45, by kernel_rfl, HA_27, H⟩
    ·refine ls_skip (d := some 40) (by kernel_rfl) (by rw [hb_4]; kernel_rfl) ?_
     refine ls_fr (b := ⟨([x0, x1, ud, ud, (.bool false), x13, ud, x1, x8, x8, (D 0), (D 1), (D 2), x13, x0, x15, x15] ++ (Ad D_1 0 17 (Ap [x34, x34, x0, x37, x38, x38] 59))).toArray, []⟩) (by kernel_rfl) ?_
     refine ls_skip (d := some 41) (by kernel_rfl) (by rw [hb_4]; kernel_rfl) ?_
     refine ls_skip (d := some 42) (by kernel_rfl) (by rw [hb_4]; kernel_rfl) ?_
     refine ls_skip (d := some 43) (by kernel_rfl) (by rw [hb_4]; kernel_rfl) ?_
     refine ls_skip (d := some 44) (by kernel_rfl) (by rw [hb_4]; kernel_rfl) ?_
     refine ls_skip (d := some 45) (by kernel_rfl) (by rw [hb_4]; kernel_rfl) ?_
     refine ls_pick_f (y := (.bool false)) (by rw [hb_3]; kernel_rfl) (by rw [hb_4]; kernel_rfl) (by kernel_rfl) ?_
     refine ls_nil (then_normal ?_)
     exact ⟨(fun i => (Ap [] 6).getD i ud), (.bool false), by kernel_rfl, HA_27, H⟩
    ·rintro _ w_28 ⟨D_8, x46, rfl, HA_28, H⟩
     refine ls_pick_f (y := x46) (by kernel_rfl) (by rw [hb_3]; kernel_rfl) (by kernel_rfl) ?_
     refine ls_nil (then_normal ?_)
     exact ⟨(fun i => ([x0, x37, x38, x38] ++ (Ad D_8 0 6 [x46])).getD i ud), x46, h_26, by kernel_rfl, HA_28, H⟩
   ·refine ls_skip (d := some 36) (by kernel_rfl) (by rw [hb_3]; kernel_rfl) ?_
    refine ls_skip (d := some 37) (by kernel_rfl) (by rw [hb_3]; kernel_rfl) ?_
    refine ls_skip (d := some 38) (by kernel_rfl) (by rw [hb_3]; kernel_rfl) ?_
    refine ls_skip (d := some 39) (by kernel_rfl) (by rw [hb_3]; kernel_rfl) ?_
    refine ls_skip (d := some 40) (by kernel_rfl) (by kernel_rfl) ?_
    refine ls_fr (b := ⟨([x0, x1, ud, ud, (.bool false), x13, ud, x1, x8, x8, (D 0), (D 1), (D 2), x13, x0, x15, x15] ++ (Ad D_1 0 17 (Ap [x34, x34] 63))).toArray, []⟩) (by kernel_rfl) ?_
    refine ls_skip (d := some 41) (by kernel_rfl) (by kernel_rfl) ?_
    refine ls_skip (d := some 42) (by kernel_rfl) (by kernel_rfl) ?_
    refine ls_skip (d := some 43) (by kernel_rfl) (by kernel_rfl) ?_
    refine ls_skip (d := some 44) (by kernel_rfl) (by kernel_rfl) ?_
    refine ls_skip (d := some 45) (by kernel_rfl) (by kernel_rfl) ?_
    refine ls_skip (d := some 46) (by kernel_rfl) (by rw [hb_3]; kernel_rfl) ?_
    refine ls_fr (b := ⟨([x0, x1, ud, ud, (.bool false), x13, ud, x1, x8, x8, (D 0), (D 1), (D 2), x13, x0, x15, x15] ++ (Ad D_1 0 17 (Ap [x34, x34] 63))).toArray, []⟩) (by kernel_rfl) ?_
    refine ls_pick_t (x := (.bool true)) (by kernel_rfl) (by rw [hb_3]; kernel_rfl) (by kernel_rfl) ?_
    refine ls_nil (then_normal ?_)
    exact ⟨(fun i => (Ap [] 11).getD i ud), (.bool true), h_1, by kernel_rfl, HA_2, H⟩
   ·rintro _ w_3 ⟨D_2, x47, h_2, rfl, HA_3, H⟩
    refine ls_assign (x := x47) (by kernel_rfl) (by kernel_rfl) ?_
    refine ls_nil (then_normal ?_)
    refine fr_eq (b := ⟨([x0, x1, ud, ud, (.bool false), x13, x47, x1, x8, x8, (D 0), (D 1), (D 2), x13, x0, x15, x15] ++ (Ad D_1 0 17 ([x34, x34] ++ (Ad D_2 0 11 (Ap [x47] 51))))).toArray, []⟩) (by kernel_rfl) ?_
    refine wp_seq ?_
    refine wp_seq (lwp_list ?_)
    refine ls_move (x := x47) (by kernel_rfl) (by kernel_rfl) ?_
    refine ls_p (d := some 49) (by kernel_rfl) (by kernel_rfl) (p_not (by kernel_rfl) H) (fun x49 H => ?_)
    refine ls_nil (then_normal ?_)
    refine fr_eq (b := ⟨([x0, x1, ud, ud, (.bool false), x13, x47, x1, x8, x8, (D 0), (D 1), (D 2), x13, x0, x15, x15] ++ (Ad D_1 0 17 ([x34, x34] ++ (Ad D_2 0 11 (Ap [x47, x47, x49] 49))))).toArray, []⟩) (by kernel_rfl) ?_
    refine wp_if rfl H (fun H => ?_) (fun H => ?_)
    ·refine wp_seq (lwp_list ?_)
     refine ls_move (x := x0) (by kernel_rfl) (by kernel_rfl) ?_
     refine ls_d (d := some 51) (by kernel_rfl) (by kernel_rfl) HA_3 (d_call (by kernel_rfl) (by kernel_rfl) H) (fun x51 h_3 w_4 H HA_4 => ?_)
     refine ls_nil (then_normal ?_)
     refine fr_eq (b := ⟨([x0, x1, ud, ud, (.bool false), x13, x47, x1, x8, x8, (D 0), (D 1), (D 2), x13, x0, x15, x15] ++ (Ad D_1 0 17 ([x34, x34] ++ (Ad D_2 0 11 (Ap [x47, x47, x49, x0, x51] 47))))).toArray, []⟩) (by kernel_rfl) ?_
     refine wp_seq (lwp_list ?_)
     refine ls_assign (x := (.bool false)) (by kernel_rfl) (by kernel_rfl) ?_
     refine ls_nil (then_normal ?_)
     refine fr_eq (b := ⟨([x0, x1, ud, ud, (.bool false), x13, x47, x1, x8, x8, (D 0), (D 1), (D 2), x13, x0, x15, x15] ++ (Ad D_1 0 17 ([x34, x34] ++ (Ad D_2 0 11 (Ap [x47, x47, x49, x0, x51] 47))))).toArray, []⟩) (by kernel_rfl) ?_
     refine wp_ret ?_
     refine then_ret ?_
     exact end1 (Try.results45) (by kernel_rfl) (by kernel_rfl) HA_4 H _ (.inr rfl)
    ·refine wp_skip ?_
     refine then_normal ?_
     refine fr_eq (b := ⟨([x0, x1, ud, ud, (.bool false), x13, x47, x1, x8, x8, (D 0), (D 1), (D 2), x13, x0, x15, x15] ++ (Ad D_1 0 17 ([x34, x34] ++ (Ad D_2 0 11 (Ap [x47, x47, x49] 49))))).toArray, []⟩) (by kernel_rfl) ?_
     refine wp_seq ?_
     refine wp_seq (lwp_list ?_)
     refine ls_move (x := x0) (by kernel_rfl) (by kernel_rfl) ?_
     refine ls_d (d := some 53) (by kernel_rfl) (by kernel_rfl) HA_3 (d_call (by kernel_rfl) (by kernel_rfl) H) (fun x53 h_4 w_5 H HA_5 => ?_)
     refine ls_nil (then_normal ?_)
     refine fr_eq (b := ⟨([x0, x1, ud, ud, (.bool false), x13, x47, x1, x8, x8, (D 0), (D 1), (D 2), x13, x0, x15, x15] ++ (Ad D_1 0 17 ([x34, x34] ++ (Ad D_2 0 11 (Ap [x47, x47, x49, ud, ud, x0, x53] 45))))).toArray, []⟩) (by kernel_rfl) ?_
     refine wp_join (fun a w => ∃ (D_3 : Nat → Value) (h_5 : Heap), a = ⟨([x0, x1, ud, ud, (.bool false), x13, x47, x1, x8, x8, (D 0), (D 1), (D 2), x13, x0, x15, x15] ++ (Ad D_1 0 17 ([x34, x34] ++ (Ad D_2 0 11 ([x47, x47, x49, ud, ud, x0, x53] ++ (Ad D_3 0 24 (Ap [] 21))))))).toArray, []⟩ ∧ At w0 w h_5 ∧ betonyref18_Disc_put_j1 R x0 x1 h_5) ?_ ?_
     ·refine wp_if rfl H (fun H => ?_) (fun H => ?_)
      ·refine lwp_list ?_
       refine ls_move (x := x0) (by kernel_rfl) (by kernel_rfl) ?_
       refine ls_d (d := some 55) (by kernel_rfl) (by kernel_rfl) HA_5 (d_slit (zc := #[]) Try.underlying30 Try.sizeOf5 (by decide) (.inl ⟨(by kernel_rfl), (by kernel_rfl)⟩) (by kernel_rfl) (by kernel_rfl) H) (fun x55 h_16 w_17 H HA_17 => ?_)
       refine ls_move (x := x0) (by kernel_rfl) (by kernel_rfl) ?_
       refine ls_p (d := some 57) (by kernel_rfl) (by kernel_rfl) (p_nil (by kernel_rfl) H) (fun x57 H => ?_)
       refine ls_p (d := some 58) (by kernel_rfl) (by kernel_rfl) (p_off Try.underlying48 rfl (fun w => ⟨_, Try.sizeOf30 w⟩) rfl (by kernel_rfl) H) (fun x58 H => ?_)
       refine ls_y (d := some 59) (by kernel_rfl) (by kernel_rfl) HA_17 (y_ld Try.isAgg30 (by kernel_rfl) H) (fun x59 H => ?_)
       refine ls_fr (b := ⟨([x0, x1, ud, ud, (.bool false), x13, x47, x1, x8, x8, (D 0), (D 1), (D 2), x13, x0, x15, x15] ++ (Ad D_1 0 17 ([x34, x34] ++ (Ad D_2 0 11 (Ap [x47, x47, x49, ud, ud, x0, x53, x0, x55, x0, x57, x58, x59] 39))))).toArray, []⟩) (by kernel_rfl) ?_
       refine ls_d (d := some 60) (by kernel_rfl) (by kernel_rfl) HA_17 (d_app (z := #[.int .u8 0]) Try.underlying30 Try.underlying30 (.inl ⟨_, rfl⟩) Try.typeInfo5 (by kernel_rfl) Try.sizeOf5 Try.zeroValue5 (by kernel_rfl) (by kernel_rfl) (by kernel_rfl) H) (fun x60 h_17 w_18 H HA_18 => ?_)
       refine ls_move (x := x1) (by kernel_rfl) (by kernel_rfl) ?_
       refine ls_d (d := some 62) (by kernel_rfl) (by kernel_rfl) HA_18 (d_slit (zc := #[.int .u8 0]) Try.underlying30 Try.sizeOf5 (by decide) (.inr ⟨by decide, _, Try.zeroValue5, (by kernel_rfl)⟩) (by kernel_rfl) (by kernel_rfl) H) (fun x62 h_18 w_19 H HA_19 => ?_)
       refine ls_d (d := some 63) (by kernel_rfl) (by kernel_rfl) HA_19 (d_app (z := #[.int .u8 0]) Try.underlying30 Try.underlying30 (.inl ⟨_, rfl⟩) Try.typeInfo5 (by kernel_rfl) Try.sizeOf5 Try.zeroValue5 (by kernel_rfl) (by kernel_rfl) (by kernel_rfl) H) (fun x63 h_19 w_20 H HA_20 => ?_)
       refine ls_p (d := some 64) (by kernel_rfl) (by kernel_rfl) (p_nil (by kernel_rfl) H) (fun x64 H => ?_)
       refine ls_p (d := some 65) (by kernel_rfl) (by kernel_rfl) (p_off Try.underlying48 rfl (fun w => ⟨_, Try.sizeOf30 w⟩) rfl (by kernel_rfl) H) (fun x65 H => ?_)
       refine ls_fr (b := ⟨([x0, x1, ud, ud, (.bool false), x13, x47, x1, x8, x8, (D 0), (D 1), (D 2), x13, x0, x15, x15] ++ (Ad D_1 0 17 ([x34, x34] ++ (Ad D_2 0 11 (Ap [x47, x47, x49, ud, ud, x0, x53, x0, x55, x0, x57, x58, x59, x60, x1, x62, x63, x64, x65] 33))))).toArray, []⟩) (by kernel_rfl) ?_
       refine ls_d (d := none) (by kernel_rfl) (by kernel_rfl) HA_20 (d_st Try.sizeOf30 (by kernel_rfl) (by kernel_rfl) H) (fun _ h_20 w_21 H HA_21 => ?_)
       refine ls_nil ?_
       exact ⟨(fun i => (Ap [x0, x55, x0, x57, x58, x59, x60, x1, x62, x63, x64, x65] 12).getD i ud), h_20, by kernel_rfl, HA_21, H⟩
      ·refine lwp_list ?_
       refine ls_move (x := x0) (by kernel_rfl) (by kernel_rfl) ?_
       refine ls_d (d := some 67) (by kernel_rfl) (by kernel_rfl) HA_5 (d_slit (zc := #[]) Try.underlying30 Try.sizeOf5 (by decide) (.inl ⟨(by kernel_rfl), (by kernel_rfl)⟩) (by kernel_rfl) (by kernel_rfl) H) (fun x67 h_21 w_22 H HA_22 => ?_)
       refine ls_move (x := x0) (by kernel_rfl) (by kernel_rfl) ?_
       refine ls_p (d := some 69) (by kernel_rfl) (by kernel_rfl) (p_nil (by kernel_rfl) H) (fun x69 H => ?_)
       refine ls_p (d := some 70) (by kernel_rfl) (by kernel_rfl) (p_off Try.underlying48 rfl (fun w => ⟨_, Try.sizeOf30 w⟩) rfl (by kernel_rfl) H) (fun x70 H => ?_)
       refine ls_y (d := some 71) (by kernel_rfl) (by kernel_rfl) HA_22 (y_ld Try.isAgg30 (by kernel_rfl) H) (fun x71 H => ?_)
       refine ls_fr (b := ⟨([x0, x1, ud, ud, (.bool false), x13, x47, x1, x8, x8, (D 0), (D 1), (D 2), x13, x0, x15, x15] ++ (Ad D_1 0 17 ([x34, x34] ++ (Ad D_2 0 11 (Aq [x47, x47, x49, ud, ud, x0, x53] 12 (Ap [x0, x67, x0, x69, x70, x71] 27)))))).toArray, []⟩) (by kernel_rfl) ?_
       refine ls_d (d := some 72) (by kernel_rfl) (by kernel_rfl) HA_22 (d_app (z := #[.int .u8 0]) Try.underlying30 Try.underlying30 (.inl ⟨_, rfl⟩) Try.typeInfo5 (by kernel_rfl) Try.sizeOf5 Try.zeroValue5 (by kernel_rfl) (by kernel_rfl) (by kernel_rfl) H) (fun x72 h_22 w_23 H HA_23 => ?_)
       refine ls_move (x := x1) (by kernel_rfl) (by kernel_rfl) ?_
       refine ls_d (d := some 74) (by kernel_rfl) (by kernel_rfl) HA_23 (d_slit (zc := #[.int .u8 0]) Try.underlying30 Try.sizeOf5 (by decide) (.inr ⟨by decide, _, Try.zeroValue5, (by kernel_rfl)⟩) (by kernel_rfl) (by kernel_rfl) H) (fun x74 h_23 w_24 H HA_24 => ?_)
       refine ls_d (d := some 75) (by kernel_rfl) (by kernel_rfl) HA_24 (d_app (z := #[.int .u8 0]) Try.underlying30 Try.underlying30 (.inl ⟨_, rfl⟩) Try.typeInfo5 (by kernel_rfl) Try.sizeOf5 Try.zeroValue5 (by kernel_rfl) (by kernel_rfl) (by kernel_rfl) H) (fun x75 h_24 w_25 H HA_25 => ?_)
       refine ls_p (d := some 76) (by kernel_rfl) (by kernel_rfl) (p_nil (by kernel_rfl) H) (fun x76 H => ?_)
       refine ls_p (d := some 77) (by kernel_rfl) (by kernel_rfl) (p_off Try.underlying48 rfl (fun w => ⟨_, Try.sizeOf30 w⟩) rfl (by kernel_rfl) H) (fun x77 H => ?_)
       refine ls_fr (b := ⟨([x0, x1, ud, ud, (.bool false), x13, x47, x1, x8, x8, (D 0), (D 1), (D 2), x13, x0, x15, x15] ++ (Ad D_1 0 17 ([x34, x34] ++ (Ad D_2 0 11 (Aq [x47, x47, x49, ud, ud, x0, x53] 12 (Ap [x0, x67, x0, x69, x70, x71, x72, x1, x74, x75, x76, x77] 21)))))).toArray, []⟩) (by kernel_rfl) ?_
       refine ls_d (d := none) (by kernel_rfl) (by kernel_rfl) HA_25 (d_st Try.sizeOf30 (by kernel_rfl) (by kernel_rfl) H) (fun _ h_25 w_26 H HA_26 => ?_)
       refine ls_nil ?_
       exact ⟨(fun i => (Aq [] 12 [x0, x67, x0, x69, x70, x71, x72, x1, x74, x75, x76, x77]).getD i ud), h_25, by kernel_rfl, HA_26, H⟩
     ·rintro _ w_6 ⟨D_3, h_5, rfl, HA_6, H⟩
      unfold betonyref18_Disc_put_j1 at H
      refine then_normal ?_
      refine fr_eq (b := ⟨([x0, x1, ud, ud, (.bool false), x13, x47, x1, x8, x8, (D 0), (D 1), (D 2), x13, x0, x15, x15] ++ (Ad D_1 0 17 ([x34, x34] ++ (Ad D_2 0 11 ([x47, x47, x49, ud, ud, x0, x53] ++ (Ad D_3 0 24 (Ap [] 21))))))).toArray, []⟩) (by kernel_rfl) ?_
      refine wp_seq ?_
      refine wp_seq (lwp_list ?_)
      refine ls_move (x := x1) (by kernel_rfl) (by kernel_rfl) ?_
      refine ls_p (d := some 79) (by kernel_rfl) (by kernel_rfl) (p_sEq (by kernel_rfl) (by kernel_rfl) H) (fun x79 H => ?_)
      refine ls_move (x := x79) (by kernel_rfl) (by kernel_rfl) ?_
      refine ls_andh [(), (), ()] (fun K a w => ∃ (D_4 : Nat → Value) (x83 : Value) (h_6 : Heap), a = ⟨([x0, x1, ud, ud, (.bool false), x13, x47, x1, x8, x8, (D 0), (D 1), (D 2), x13, x0, x15, x15] ++ (Ad D_1 0 17 ([x34, x34] ++ (Ad D_2 0 11 ([x47, x47, x49, ud, ud, x0, x53] ++ (Ad D_3 0 24 (Ap [x1, x79, x79, (D_4 0), (D_4 1), x83] 15))))))).toArray, []⟩ ∧ At w0 w h_6 ∧ K x83 h_6) H (fun hb_2 H => ?_) (fun hb_2 H => ?_) ?_
      ·refine ls_move (x := x0) (by rw [hb_2]; kernel_rfl) (by kernel_rfl) ?_
       refine ls_d (d := some 82) (by kernel_rfl) (by rw [hb_2]; kernel_rfl) HA_6 (d_call (by kernel_rfl) (by kernel_rfl) H) (fun x82 h_15 w_16 H HA_16 => ?_)
       refine ls_pick_t (x := x82) (by kernel_rfl) (by rw [hb_2]; kernel_rfl) (by kernel_rfl) ?_
       refine ls_nil (then_normal ?_)
       exact ⟨(fun i => ([x0, x82]).getD i ud), x82, h_15, by kernel_rfl, HA_16, H⟩
      ·refine ls_skip (d := some 81) (by kernel_rfl) (by rw [hb_2]; kernel_rfl) ?_
       refine ls_skip (d := some 82) (by kernel_rfl) (by rw [hb_2]; kernel_rfl) ?_
       refine ls_pick_f (y := (.bool false)) (by kernel_rfl) (by rw [hb_2]; kernel_rfl) (by kernel_rfl) ?_
       refine ls_nil (then_normal ?_)
       exact ⟨(fun i => ([ud, ud]).getD i ud), (.bool false), h_5, by kernel_rfl, HA_6, H⟩
      ·rintro _ w_7 ⟨D_4, x83, h_6, rfl, HA_7, H⟩
       refine ls_move (x := x83) (by kernel_rfl) (by kernel_rfl) ?_
       refine ls_andh [(), (), ()] (fun K a w => ∃ (D_5 : Nat → Value) (x87 : Value) (h_7 : Heap), a = ⟨([x0, x1, ud, ud, (.bool false), x13, x47, x1, x8, x8, (D 0), (D 1), (D 2), x13, x0, x15, x15] ++ (Ad D_1 0 17 ([x34, x34] ++ (Ad D_2 0 11 ([x47, x47, x49, ud, ud, x0, x53] ++ (Ad D_3 0 24 (Ap [x1, x79, x79, (D_4 0), (D_4 1), x83, x83, (D_5 0), (D_5 1), x87] 11))))))).toArray, []⟩ ∧ At w0 w h_7 ∧ K x87 h_7) H (fun hb_1 H => ?_) (fun hb_1 H => ?_) ?_
       ·refine ls_move (x := x0) (by rw [hb_1]; kernel_rfl) (by kernel_rfl) ?_
        refine ls_d (d := some 86) (by kernel_rfl) (by rw [hb_1]; kernel_rfl) HA_7 (d_call (by kernel_rfl) (by kernel_rfl) H) (fun x86 h_14 w_15 H HA_15 => ?_)
        refine ls_pick_t (x := x86) (by kernel_rfl) (by rw [hb_1]; kernel_rfl) (by kernel_rfl) ?_
        refine ls_nil (then_normal ?_)
        exact ⟨(fun i => ([x0, x86]).getD i ud), x86, h_14, by kernel_rfl, HA_15, H⟩
       ·refine ls_skip (d := some 85) (by kernel_rfl) (by rw [hb_1]; kernel_rfl) ?_
        refine ls_skip (d := some 86) (by kernel_rfl) (by rw [hb_1]; kernel_rfl) ?_
        refine ls_pick_f (y := (.bool false)) (by kernel_rfl) (by rw [hb_1]; kernel_rfl) (by kernel_rfl) ?_
        refine ls_nil (then_normal ?_)
        exact ⟨(fun i => ([ud, ud]).getD i ud), (.bool false), h_6, by kernel_rfl, HA_7, H⟩
       ·rintro _ w_8 ⟨D_5, x87, h_7, rfl, HA_8, H⟩
        refine ls_move (x := x87) (by kernel_rfl) (by kernel_rfl) ?_
        refine ls_andh [(), (), (), ()] (fun K a w => ∃ (D_6 : Nat → Value) (x92 : Value) (h_8 : Heap), a = ⟨([x0, x1, ud, ud, (.bool false), x13, x47, x1, x8, x8, (D 0), (D 1), (D 2), x13, x0, x15, x15] ++ (Ad D_1 0 17 ([x34, x34] ++ (Ad D_2 0 11 ([x47, x47, x49, ud, ud, x0, x53] ++ (Ad D_3 0 24 (Ap [x1, x79, x79, (D_4 0), (D_4 1), x83, x83, (D_5 0), (D_5 1), x87, x87, (D_6 0), (D_6 1), (D_6 2), x92] 6))))))).toArray, []⟩ ∧ At w0 w h_8 ∧ K x92 h_8) H (fun hb H => ?_) (fun hb H => ?_) ?_
        ·refine ls_move (x := x0) (by rw [hb]; kernel_rfl) (by kernel_rfl) ?_
         refine ls_d (d := some 90) (by kernel_rfl) (by rw [hb]; kernel_rfl) HA_8 (d_call (by kernel_rfl) (by kernel_rfl) H) (fun x90 h_13 w_14 H HA_14 => ?_)
         refine ls_p (d := some 91) (by kernel_rfl) (by rw [hb]; kernel_rfl) (p_not (by kernel_rfl) H) (fun x91 H => ?_)
         refine ls_pick_t (x := x91) (by kernel_rfl) (by rw [hb]; kernel_rfl) (by kernel_rfl) ?_
         refine ls_nil (then_normal ?_)
         exact ⟨(fun i => ([x0, x90, x91]).getD i ud), x91, h_13, by kernel_rfl, HA_14, H⟩
        ·refine ls_skip (d := some 89) (by kernel_rfl) (by rw [hb]; kernel_rfl) ?_
         refine ls_skip (d := some 90) (by kernel_rfl) (by rw [hb]; kernel_rfl) ?_
         refine ls_skip (d := some 91) (by kernel_rfl) (by rw [hb]; kernel_rfl) ?_
         refine ls_pick_f (y := (.bool false)) (by kernel_rfl) (by rw [hb]; kernel_rfl) (by kernel_rfl) ?_
         refine ls_nil (then_normal ?_)
         exact ⟨(fun i => ([ud, ud, ud]).getD i ud), (.bool false), h_7, by kernel_rfl, HA_8, H⟩
        ·rintro _ w_9 ⟨D_6, x92, h_8, rfl, HA_9, H⟩
         refine ls_nil (then_normal ?_)
         refine fr_eq (b := ⟨([x0, x1, ud, ud, (.bool false), x13, x47, x1, x8, x8, (D 0), (D 1), (D 2), x13, x0, x15, x15] ++ (Ad D_1 0 17 ([x34, x34] ++ (Ad D_2 0 11 ([x47, x47, x49, ud, ud, x0, x53] ++ (Ad D_3 0 24 (Ap [x1, x79, x79, (D_4 0), (D_4 1), x83, x83, (D_5 0), (D_5 1), x87, x87, (D_6 0), (D_6 1), (D_6 2), x92] 6))))))).toArray, []⟩) (by kernel_rfl) ?_
         refine wp_join (fun a w => ∃ (D_7 : Nat → Value) (h_9 : Heap), a = ⟨([x0, x1, ud, ud, (.bool false), x13, x47, x1, x8, x8, (D 0), (D 1), (D 2), x13, x0, x15, x15] ++ (Ad D_1 0 17 ([x34, x34] ++ (Ad D_2 0 11 ([x47, x47, x49, ud, ud, x0, x53] ++ (Ad D_3 0 24 [x1, x79, x79, (D_4 0), (D_4 1), x83, x83, (D_5 0), (D_5 1), x87, x87, (D_6 0), (D_6 1), (D_6 2), x92, (D_7 0), (D_7 1), (D_7 2), ud, ud, ud])))))).toArray, []⟩ ∧ At w0 w h_9 ∧ betonyref18_Disc_put_j2 R x0 x1 h_9) ?_ ?_
         ·refine wp_if rfl H (fun H => ?_) (fun H => ?_)
          ·refine lwp_list ?_
           refine ls_move (x := x0) (by kernel_rfl) (by kernel_rfl) ?_
           refine ls_d (d := some 94) (by kernel_rfl) (by kernel_rfl) HA_9 (d_slit (zc := #[.int .u8 0]) Try.underlying30 Try.sizeOf5 (by decide) (.inr ⟨by decide, _, Try.zeroValue5, (by kernel_rfl)⟩) (by kernel_rfl) (by kernel_rfl) H) (fun x94 h_11 w_12 H HA_12 => ?_)
           refine ls_d (d := some 95) (by kernel_rfl) (by kernel_rfl) HA_12 (d_call (by kernel_rfl) (by kernel_rfl) H) (fun x95 h_12 w_13 H HA_13 => ?_)
           refine ls_nil ?_
           exact ⟨(fun i => ([x0, x94, x95]).getD i ud), h_12, by kernel_rfl, HA_13, H⟩
          ·refine wp_skip ?_
           exact ⟨(fun i => ([ud, ud, ud]).getD i ud), h_8, by kernel_rfl, HA_9, H⟩
         ·rintro _ w_10 ⟨D_7, h_9, rfl, HA_10, H⟩
          unfold betonyref18_Disc_put_j2 at H
          refine then_normal ?_
          refine fr_eq (b := ⟨([x0, x1, ud, ud, (.bool false), x13, x47, x1, x8, x8, (D 0), (D 1), (D 2), x13, x0, x15, x15] ++ (Ad D_1 0 17 ([x34, x34] ++ (Ad D_2 0 11 ([x47, x47, x49, ud, ud, x0, x53] ++ (Ad D_3 0 24 [x1, x79, x79, (D_4 0), (D_4 1), x83, x83, (D_5 0), (D_5 1), x87, x87, (D_6 0), (D_6 1), (D_6 2), x92, (D_7 0), (D_7 1), (D_7 2), ud, ud, ud])))))).toArray, []⟩) (by kernel_rfl) ?_
          refine wp_seq (lwp_list ?_)
          refine ls_move (x := x0) (by kernel_rfl) (by kernel_rfl) ?_
          refine ls_move (x := x1) (by kernel_rfl) (by kernel_rfl) ?_
          refine ls_d (d := some 98) (by kernel_rfl) (by kernel_rfl) HA_10 (d_call (by kernel_rfl) (by kernel_rfl) H) (fun x98 h_10 w_11 H HA_11 => ?_)
          refine ls_nil (then_normal ?_)
          refine fr_eq (b := ⟨([x0, x1, ud, ud, (.bool false), x13, x47, x1, x8, x8, (D 0), (D 1), (D 2), x13, x0, x15, x15] ++ (Ad D_1 0 17 ([x34, x34] ++ (Ad D_2 0 11 ([x47, x47, x49, ud, ud, x0, x53] ++ (Ad D_3 0 24 [x1, x79, x79, (D_4 0), (D_4 1), x83, x83, (D_5 0), (D_5 1), x87, x87, (D_6 0), (D_6 1), (D_6 2), x92, (D_7 0), (D_7 1), (D_7 2), x0, x1, x98])))))).toArray, []⟩) (by kernel_rfl) ?_
          refine wp_seq (lwp_list ?_)
          refine ls_assign (x := (.bool true)) (by kernel_rfl) (by kernel_rfl) ?_
          refine ls_nil (then_normal ?_)
          refine fr_eq (b := ⟨([x0, x1, ud, ud, (.bool true), x13, x47, x1, x8, x8, (D 0), (D 1), (D 2), x13, x0, x15, x15] ++ (Ad D_1 0 17 ([x34, x34] ++ (Ad D_2 0 11 ([x47, x47, x49, ud, ud, x0, x53] ++ (Ad D_3 0 24 [x1, x79, x79, (D_4 0), (D_4 1), x83, x83, (D_5 0), (D_5 1), x87, x87, (D_6 0), (D_6 1), (D_6 2), x92, (D_7 0), (D_7 1), (D_7 2), x0, x1, x98])))))).toArray, []⟩) (by kernel_rfl) ?_
          refine wp_ret ?_
          exact end1 (Try.results45) (by kernel_rfl) (by kernel_rfl) HA_11 H _ (.inr rfl)

end Go.Proofs.Ytlcklnbgknhhkaa

end

section
/- The shallow reading of one function, and that the function does it. Written by a program. -/
set_option linter.unusedVariables false
namespace Go.Proofs.Ytlcklnbgknhhkaa
open Go Go.HW

def betonyref18_Disc_ready_S (x0 : Value) (h : Heap) (R : Value → Heap → Prop) : Prop :=
  sNil x0 fun x4 =>
  sOff x4 17 fun x5 =>
  sLd h x5 fun x6 =>
  sNil x0 fun x8 =>
  sOff x8 17 fun x9 =>
  sSt h x9 (.slice none 0 0) fun h => 
  betonyref18_Disc_Ready_c x0 h fun x11 h_1 => 
  sLen x6 fun x13 =>
  sAdd .i64 x11 x13 fun x14 =>
  sGt x14 (.int .i64 1024) fun x15 =>
  sIf x15 (betonyref18_Disc_lost_c x0 h_1 fun x17 h_2 => 
  R unit h_2) (sSlit h_1 #[] [] 30 0 fun x19 h_3 => 
  sNil x0 fun x21 =>
  sOff x21 18 fun x22 =>
  sLd h_3 x22 fun x23 =>
  sApp h_3 x19 x23 #[.slice none 0 0] 30 24 fun x24 h_4 => 
  sSlit h_4 #[.slice none 0 0] [(0, 1, x6)] 30 1 fun x26 h_5 => 
  sApp h_5 x24 x26 #[.slice none 0 0] 30 24 fun x27 h_6 => 
  sNil x0 fun x28 =>
  sOff x28 18 fun x29 =>
  sSt h_6 x29 x27 fun h_7 => 
  R unit h_7)
set_option maxRecDepth 100000 in
theorem betonyref18_Disc_ready_runs {x0 : Value} {h : Heap} {R : Value → Heap → Prop} (H : betonyref18_Disc_ready_S x0 h R) : betonyref18_Disc_ready_c x0 h R := by
 unfold betonyref18_Disc_ready_S at H
 refine runs_of (b := ⟨#[x0, ud, ud, ud, ud, ud, ud, ud, ud, ud, ud, ud, ud, ud, ud, ud, ud, ud, ud, ud, ud, ud, ud, ud, ud, ud, ud, ud, ud, ud], []⟩) Try.call53 Try.func53 rfl (by kernel_rfl) (fun w0 HA => ?_)
 refine wp_seq (lwp_list ?_)
 refine ls_move (x := x0) (by kernel_rfl) (by kernel_rfl) ?_
 refine ls_p (d := some 4) (by kernel_rfl) (by kernel_rfl) (p_nil (by kernel_rfl) H) (fun x4 H => ?_)
 refine ls_p (d := some 5) (by kernel_rfl) (by kernel_rfl) (p_off Try.underlying48 rfl (fun w => ⟨_, Try.sizeOf30 w⟩) rfl (by kernel_rfl) H) (fun x5 H => ?_)
 refine ls_y (d := some 6) (by kernel_rfl) (by kernel_rfl) HA (y_ld Try.isAgg30 (by kernel_rfl) H) (fun x6 H => ?_)
 refine ls_assign (x := x6) (by kernel_rfl) (by kernel_rfl) ?_
 refine ls_nil (then_normal ?_)
 refine fr_eq (b := ⟨#[x0, ud, x6, x0, x4, x5, x6, ud, ud, ud, ud, ud, ud, ud, ud, ud, ud, ud, ud, ud, ud, ud, ud, ud, ud, ud, ud, ud, ud, ud], []⟩) (by kernel_rfl) ?_
 refine wp_seq (lwp_list ?_)
 refine ls_move (x := x0) (by kernel_rfl) (by kernel_rfl) ?_
 refine ls_p (d := some 8) (by kernel_rfl) (by kernel_rfl) (p_nil (by kernel_rfl) H) (fun x8 H => ?_)
 refine ls_p (d := some 9) (by kernel_rfl) (by kernel_rfl) (p_off Try.underlying48 rfl (fun w => ⟨_, Try.sizeOf30 w⟩) rfl (by kernel_rfl) H) (fun x9 H => ?_)
 refine ls_d (d := none) (by kernel_rfl) (by kernel_rfl) HA (d_st Try.sizeOf30 (by kernel_rfl) (by kernel_rfl) H) (fun _ h w H HA => ?_)
 refine ls_nil (then_normal ?_)
 refine fr_eq (b := ⟨#[x0, ud, x6, x0, x4, x5, x6, x0, x8, x9, ud, ud, ud, ud, ud, ud, ud, ud, ud, ud, ud, ud, ud, ud, ud, ud, ud, ud, ud, ud], []⟩) (by kernel_rfl) ?_
 refine wp_seq ?_
 refine wp_seq (lwp_list ?_)
 refine ls_move (x := x0) (by kernel_rfl) (by kernel_rfl) ?_
 refine ls_d (d := some 11) (by kernel_rfl) (by kernel_rfl) HA (d_call (by kernel_rfl) (by kernel_rfl) H) (fun x11 h_1 w_1 H HA_1 => ?_)
 refine ls_move (x := x6) (by kernel_rfl) (by kernel_rfl) ?_
 refine ls_p (d := some 13) (by kernel_rfl) (by kernel_rfl) (p_len Try.underlying30 (by kernel_rfl) H) (fun x13 H => ?_)
 refine ls_p (d := some 14) (by kernel_rfl) (by kernel_rfl) (p_add (by kernel_rfl) (by kernel_rfl) H) (fun x14 H => ?_)
 refine ls_p (d := some 15) (by kernel_rfl) (by kernel_rfl) (p_sGt (by kernel_rfl) (by kernel_rfl) H) (fun x15 H => ?_)
 refine ls_nil (then_normal ?_)
 refine fr_eq (b := ⟨#[x0, ud, x6, x0, x4, x5, x6, x0, x8, x9, x0, x11, x6, x13, x14, x15, ud, ud, ud, ud, ud, ud, ud, ud, ud, ud, ud, ud, ud, ud], []⟩) (by kernel_rfl) ?_
 refine wp_if rfl H (fun H => ?_) (fun H => ?_)
 ·refine wp_seq (lwp_list ?_)
  refine ls_move (x := x0) (by kernel_rfl) (by kernel_rfl) ?_
  refine ls_d (d := some 17) (by kernel_rfl) (by kernel_rfl) HA_1 (d_call (by kernel_rfl) (by kernel_rfl) H) (fun x17 h_2 w_2 H HA_2 => ?_)
  refine ls_nil (then_normal ?_)
  refine fr_eq (b := ⟨#[x0, ud, x6, x0, x4, x5, x6, x0, x8, x9, x0, x11, x6, x13, x14, x15, x0, x17, ud, ud, ud, ud, ud, ud, ud, ud, ud, ud, ud, ud], []⟩) (by kernel_rfl) ?_
  refine wp_ret ?_
  refine then_ret ?_
  exact end0 (Try.results53) (by kernel_rfl) HA_2 H _ (.inr rfl)
 ·refine wp_skip ?_
  refine then_normal ?_
  refine fr_eq (b := ⟨#[x0, ud, x6, x0, x4, x5, x6, x0, x8, x9, x0, x11, x6, x13, x14, x15, ud, ud, ud, ud, ud, ud, ud, ud, ud, ud, ud, ud, ud, ud], []⟩) (by kernel_rfl) ?_
  refine lwp_list ?_
  refine ls_move (x := x0) (by kernel_rfl) (by kernel_rfl) ?_
  refine ls_d (d := some 19) (by kernel_rfl) (by kernel_rfl) HA_1 (d_slit (zc := #[]) Try.underlying22 Try.sizeOf30 (by decide) (.inl ⟨(by kernel_rfl), (by kernel_rfl)⟩) (by kernel_rfl) (by kernel_rfl) H) (fun x19 h_3 w_3 H HA_3 => ?_)
  refine ls_move (x := x0) (by kernel_rfl) (by kernel_rfl) ?_
  refine ls_p (d := some 21) (by kernel_rfl) (by kernel_rfl) (p_nil (by kernel_rfl) H) (fun x21 H => ?_)
  refine ls_p (d := some 22) (by kernel_rfl) (by kernel_rfl) (p_off Try.underlying48 rfl (fun w => ⟨_, Try.sizeOf22 w⟩) rfl (by kernel_rfl) H) (fun x22 H => ?_)
  refine ls_y (d := some 23) (by kernel_rfl) (by kernel_rfl) HA_3 (y_ld Try.isAgg22 (by kernel_rfl) H) (fun x23 H => ?_)
  refine ls_fr (b := ⟨#[x0, ud, x6, x0, x4, x5, x6, x0, x8, x9, x0, x11, x6, x13, x14, x15, ud, ud, x0, x19, x0, x21, x22, x23, ud, ud, ud, ud, ud, ud], []⟩) (by kernel_rfl) ?_
  refine ls_d (d := some 24) (by kernel_rfl) (by kernel_rfl) HA_3 (d_app (z := #[.slice none 0 0]) Try.underlying22 Try.underlying22 (.inl ⟨_, rfl⟩) Try.typeInfo30 (by kernel_rfl) Try.sizeOf30 Try.zeroValue30 (by kernel_rfl) (by kernel_rfl) (by kernel_rfl) H) (fun x24 h_4 w_4 H HA_4 => ?_)
  refine ls_move (x := x6) (by kernel_rfl) (by kernel_rfl) ?_
  refine ls_d (d := some 26) (by kernel_rfl) (by kernel_rfl) HA_4 (d_slit (zc := #[.slice none 0 0]) Try.underlying22 Try.sizeOf30 (by decide) (.inr ⟨by decide, _, Try.zeroValue30, (by kernel_rfl)⟩) (by kernel_rfl) (by kernel_rfl) H) (fun x26 h_5 w_5 H HA_5 => ?_)
  refine ls_d (d := some 27) (by kernel_rfl) (by kernel_rfl) HA_5 (d_app (z := #[.slice none 0 0]) Try.underlying22 Try.underlying22 (.inl ⟨_, rfl⟩) Try.typeInfo30 (by kernel_rfl) Try.sizeOf30 Try.zeroValue30 (by kernel_rfl) (by kernel_rfl) (by kernel_rfl) H) (fun x27 h_6 w_6 H HA_6 => ?_)
  refine ls_p (d := some 28) (by kernel_rfl) (by kernel_rfl) (p_nil (by kernel_rfl) H) (fun x28 H => ?_)
  refine ls_p (d := some 29) (by kernel_rfl) (by kernel_rfl) (p_off Try.underlying48 rfl (fun w => ⟨_, Try.sizeOf22 w⟩) rfl (by kernel_rfl) H) (fun x29 H => ?_)
  refine ls_fr (b := ⟨#[x0, ud, x6, x0, x4, x5, x6, x0, x8, x9, x0, x11, x6, x13, x14, x15, ud, ud, x0, x19, x0, x21, x22, x23, x24, x6, x26, x27, x28, x29], []⟩) (by kernel_rfl) ?_
  refine ls_d (d := none) (by kernel_rfl) (by kernel_rfl) HA_6 (d_st Try.sizeOf22 (by kernel_rfl) (by kernel_rfl) H) (fun _ h_7 w_7 H HA_7 => ?_)
  refine ls_nil ?_
  exact end0 (Try.results53) (by kernel_rfl) HA_7 H _ (.inl rfl)

end Go.Proofs.Ytlcklnbgknhhkaa

end

section
/- The shallow reading of one function, and that the function does it. Written by a program. -/
set_option linter.unusedVariables false
namespace Go.Proofs.Ytlcklnbgknhhkaa
open Go Go.HW

def betonyref18_Disc_show_S (x0 x1 : Value) (h : Heap) (R : Value → Heap → Prop) : Prop :=
  betonyref18_Disc_local_c x0 (.int .i64 2) h fun x5 h => 
  sIf x5 (betonyref18_Disc_picture_c x0 x1 h fun x9 h_1 => 
  betonyref18_Disc_out_c x0 x9 h_1 fun x10 h_2 => 
  R unit h_2) (R unit h)
set_option maxRecDepth 100000 in
theorem betonyref18_Disc_show_runs {x0 x1 : Value} {h : Heap} {R : Value → Heap → Prop} (H : betonyref18_Disc_show_S x0 x1 h R) : betonyref18_Disc_show_c x0 x1 h R := by
 unfold betonyref18_Disc_show_S at H
 refine runs_of (b := ⟨#[x0, x1, ud, ud, ud, ud, ud, ud, ud, ud, ud], []⟩) Try.call49 Try.func49 rfl (by kernel_rfl) (fun w0 HA => ?_)
 refine wp_seq (lwp_list ?_)
 refine ls_move (x := x0) (by kernel_rfl) (by kernel_rfl) ?_
 refine ls_d (d := some 5) (by kernel_rfl) (by kernel_rfl) HA (d_call (by kernel_rfl) (by kernel_rfl) H) (fun x5 h w H HA => ?_)
 refine ls_nil (then_normal ?_)
 refine fr_eq (b := ⟨#[x0, x1, ud, ud, x0, x5, ud, ud, ud, ud, ud], []⟩) (by kernel_rfl) ?_
 refine wp_if rfl H (fun H => ?_) (fun H => ?_)
 ·refine lwp_list ?_
  refine ls_move (x := x0) (by kernel_rfl) (by kernel_rfl) ?_
  refine ls_move (x := x0) (by kernel_rfl) (by kernel_rfl) ?_
  refine ls_move (x := x1) (by kernel_rfl) (by kernel_rfl) ?_
  refine ls_d (d := some 9) (by kernel_rfl) (by kernel_rfl) HA (d_call (by kernel_rfl) (by kernel_rfl) H) (fun x9 h_1 w_1 H HA_1 => ?_)
  refine ls_d (d := some 10) (by kernel_rfl) (by kernel_rfl) HA_1 (d_call (by kernel_rfl) (by kernel_rfl) H) (fun x10 h_2 w_2 H HA_2 => ?_)
  refine ls_nil ?_
  exact end0 (Try.results49) (by kernel_rfl) HA_2 H _ (.inl rfl)
 ·refine wp_skip ?_
  exact end0 (Try.results49) (by kernel_rfl) HA H _ (.inl rfl)

end Go.Proofs.Ytlcklnbgknhhkaa

end

section
/- The document's discipline: what each function comes to. -/
set_option linter.unusedSimpArgs false
set_option linter.unusedVariables false
namespace Go.Proofs.Ytlcklnbgknhhkaa
open Go Go.HW

def frR (rs : List (CV × List Int)) : List (Value × List Int) := rs.map fun p => (p.1.1, p.2)
def frL (d : D) (lv rv ev : Value) (rs : List (CV × List Int)) : List (Value × List Int) := (lv, d.ln) :: (rv, d.ra) :: (ev, d.ec) :: frR rs
def Xc (k : Nat) (d : D) (E : List (Value × List Int)) : HP := HP.ex fun p : (Value × Value × Value × Value) × {rs : List (CV × List Int) // rs.map (·.2) = d.ls} => HP.all [Blk k (dC d p.1.1 p.1.2.1 p.1.2.2.1 p.1.2.2.2) 48, Sl encCV 1 p.1.2.1 (p.2.1.map (·.1)), frz (frL d p.1.1 p.1.2.2.1 p.1.2.2.2 p.2.1 ++ E)]
theorem xor_add {c : Int} (hc : 0 ≤ c ∧ c < 32) : IntKind.u8.wrap (c + 64) = bitsOf .xor .u8 c 64 := by
  have key : ∀ c : Fin 32, IntKind.u8.wrap ((c.val : Int) + 64) = bitsOf .xor .u8 (c.val : Int) 64 := by decide +kernel
  have := key ⟨c.toNat, by omega⟩
  simp only at this
  rwa [Int.toNat_of_nonneg hc.1] at this
def allL (d : D) : List Int := d.ra ++ d.ls.flatten ++ d.ln
theorem sumL_flat (ls : List (List Int)) : ls.flatten.length = sumL ls := by unfold sumL; rw [List.length_flatten]

section
variable {h0 h : Heap} {F : List HP} {R : Value → Heap → Prop} {k : Nat} {d : D} {E : List (Value × List Int)} {lv sv rv ev : Value} {rs : List (CV × List Int)}
theorem Xopen (s : HW.Sep h0 (Xc k d E :: F) h) : ∃ lv sv rv ev, ∃ rs : List (CV × List Int), rs.map (·.2) = d.ls ∧ HW.Sep h0 (Blk k (dC d lv sv rv ev) 48 :: Sl encCV 1 sv (rs.map (·.1)) :: frz (frL d lv rv ev rs ++ E) :: F) h := by
  obtain ⟨⟨⟨lv, sv, rv, ev⟩, ⟨rs, e⟩⟩, s⟩ := s.open_ex
  exact ⟨lv, sv, rv, ev, rs, e, s.open_all⟩
theorem Xshut {L : List (Value × List Int)} (e : rs.map (·.2) = d.ls) (s : HW.Sep h0 (Blk k (dC d lv sv rv ev) 48 :: Sl encCV 1 sv (rs.map (·.1)) :: frz L :: F) h) (H : ∀ x ∈ frL d lv rv ev rs ++ E, x ∈ L) : HW.Sep h0 (Xc k d E :: F) h := by
  have s2 : HW.Sep h0 (Blk k (dC d lv sv rv ev) 48 :: Sl encCV 1 sv (rs.map (·.1)) :: frz (frL d lv rv ev rs ++ E) :: F) h := (frz_sub s.b2 H).p2
  exact Sep.shut_ex (A := fun p : (Value × Value × Value × Value) × {rs : List (CV × List Int) // rs.map (·.2) = d.ls} => HP.all [Blk k (dC d p.1.1 p.1.2.1 p.1.2.2.1 p.1.2.2.2) 48, Sl encCV 1 p.1.2.1 (p.2.1.map (·.1)), frz (frL d p.1.1 p.1.2.2.1 p.1.2.2.2 p.2.1 ++ E)]) ⟨(lv, sv, rv, ev), ⟨rs, e⟩⟩ (Sep.shut_all (L := [_, _, _]) s2)
theorem Xhas (s : HW.Sep h0 (Xc k d E :: F) h) : ∃ lv sv rv ev, h.has k (dC d lv sv rv ev) 48 := by
  obtain ⟨lv, sv, rv, ev, rs, e, s⟩ := Xopen s
  exact ⟨lv, sv, rv, ev, s.has⟩
theorem xlocal_b {f : Int} (b : h.has k (dC d lv sv rv ev) 48) (H : R (.bool (d.loc f)) h) : betonyref18_Disc_local_c (ptr k 0) (.int .i64 f) h R := by
  apply betonyref18_Disc_local_runs
  unfold betonyref18_Disc_local_S
  have f2 : ∀ {K : Value → Prop}, sLd h (ptr k 2) K = K (.int .i64 d.t.l) := ev_ld_has b rfl
  simp only [ev_nil, ev_off, Nat.zero_add, f2]
  exact hasr_spec H
theorem xin_b {f : Int} (b : h.has k (dC d lv sv rv ev) 48) (H : R (.bool (d.inn f)) h) : betonyref18_Disc_in_c (ptr k 0) (.int .i64 f) h R := by
  apply betonyref18_Disc_in_runs
  unfold betonyref18_Disc_in_S
  have f2 : ∀ {K : Value → Prop}, sLd h (ptr k 0) K = K (.int .i64 d.t.i) := ev_ld_has b rfl
  simp only [ev_nil, ev_off, Nat.zero_add, f2]
  exact hasr_spec H
theorem xt_ld (b : h.has k (dC d lv sv rv ev) 48) {K : Value → Prop} : sLdN h (ptr k 0) 17 K = K d.t.v := blk_part b d.t.e [lv, sv, rv, .bool d.st, .bool d.nx, ev] rfl rfl
theorem xis_b {w c : Int} (b : h.has k (dC d lv sv rv ev) 48) (hc : 0 ≤ c ∧ c < 256) (H : ∀ h', Ext h h' → R (.bool (d.t.is w c)) h') : betonyref18_Disc_is_c (ptr k 0) (.int .i64 w) (.int .u8 c) h R := by
  apply betonyref18_Disc_is_runs
  unfold betonyref18_Disc_is_S
  rw [ev_nil, ev_off, Nat.zero_add, xt_ld b, ev_conv, wrap_i64 (by omega) (by omega)]
  exact ris_spec H
theorem xlocal {f : Int} (s : HW.Sep h0 (Xc k d E :: F) h) (H : R (.bool (d.loc f)) h) : betonyref18_Disc_local_c (ptr k 0) (.int .i64 f) h R := by
  obtain ⟨lv, sv, rv, ev, b⟩ := Xhas s
  exact xlocal_b b H
theorem xin {f : Int} (s : HW.Sep h0 (Xc k d E :: F) h) (H : R (.bool (d.inn f)) h) : betonyref18_Disc_in_c (ptr k 0) (.int .i64 f) h R := by
  obtain ⟨lv, sv, rv, ev, b⟩ := Xhas s
  exact xin_b b H
theorem xis {w c : Int} (s : HW.Sep h0 (Xc k d E :: F) h) (hc : 0 ≤ c ∧ c < 256) (H : ∀ h', Ext h h' → R (.bool (d.t.is w c)) h') : betonyref18_Disc_is_c (ptr k 0) (.int .i64 w) (.int .u8 c) h R := by
  obtain ⟨lv, sv, rv, ev, b⟩ := Xhas s
  exact xis_b b hc H
theorem xpict {c : Int} (hc : 0 ≤ c ∧ c < 256) (s : HW.Sep h0 (Xc k d E :: F) h) (H : ∀ v h', HW.Sep h0 (Sl (encI .u8) 1 v (d.pict c) :: Xc k d E :: F) h' → R v h') : betonyref18_Disc_picture_c (ptr k 0) (.int .u8 c) h R := by
  apply betonyref18_Disc_picture_runs
  unfold betonyref18_Disc_picture_S
  refine xlocal s ?_
  simp only [ev_lt, ev_ne, ev_and_p, ev_if]
  unfold D.pict at H
  by_cases h1 : (d.loc 32 && (decide (c < 32) && c != 9 && c != 10)) = true
  · rw [if_pos h1, ev_add]
    have h2 := h1
    simp only [Bool.and_eq_true, decide_eq_true_eq] at h2
    rw [if_pos (by simp only [Bool.and_eq_true, Bool.or_eq_true] at h1 ⊢; exact ⟨h1.1, .inl h1.2⟩)] at H
    rw [xor_add (by omega)]
    exact s.slit (enc := encI .u8) (sz := 1) (encI_len .u8) [94, bitsOf .xor .u8 c 64] rfl ⟨rfl, Nat.le_of_ble_eq_true rfl, rfl, Nat.le_of_ble_eq_true rfl, rfl⟩ (fun v h1 cv s1 => H v h1 s1)
  rw [if_neg h1]
  refine xlocal s ?_
  simp only [ev_eq, ev_and_p, ev_if]
  by_cases h2 : (d.loc 32 && c == 127) = true
  · rw [if_pos h2]
    rw [if_pos (by simp only [Bool.and_eq_true, Bool.or_eq_true] at h2 ⊢; exact ⟨h2.1, .inr h2.2⟩)] at H
    have hc7 : c = 127 := by simp only [Bool.and_eq_true, beq_iff_eq] at h2; exact h2.2
    subst hc7
    exact s.slit (enc := encI .u8) (sz := 1) (encI_len .u8) [94, 63] rfl ⟨rfl, Nat.le_of_ble_eq_true rfl, rfl, Nat.le_of_ble_eq_true rfl, rfl⟩ (fun v h1 cv s1 => H v h1 s1)
  rw [if_neg h2]
  rw [if_neg (by
    intro h3
    simp only [Bool.and_eq_true, Bool.or_eq_true] at h1 h2 h3
    rcases h3.2 with h | h
    · exact h1 ⟨h3.1, h⟩
    · exact h2 ⟨h3.1, h⟩)] at H
  exact s.slit (enc := encI .u8) (sz := 1) (encI_len .u8) [c] rfl ⟨rfl, Nat.le_of_ble_eq_true rfl, rfl⟩ (fun v h1 cv s1 => H v h1 s1)
theorem xout {v : Value} {l : List Int} (s : HW.Sep h0 (Sl (encI .u8) 1 v l :: Xc k d E :: F) h) (hb : d.ec.length + l.length ≤ 1073741824) (H : ∀ h', HW.Sep h0 (Xc k (d.emit l) E :: F) h' → R unit h') : betonyref18_Disc_out_c (ptr k 0) v h R := by
  apply betonyref18_Disc_out_runs
  unfold betonyref18_Disc_out_S
  obtain ⟨lv, sv, rv, ev, rs, e, so⟩ := Xopen s.b1
  refine so.slit (enc := encI .u8) (sz := 1) (encI_len .u8) [] rfl rfl (fun v1 h1 cv1 s1 => ?_)
  have f22 : ∀ {K : Value → Prop}, sLd h1 (ptr k 22) K = K ev := s1.b1.ld rfl
  rw [ev_nil, ev_off, Nat.zero_add, f22]
  refine s1.app (enc := encI .u8) (sz := 1) rfl (by decide) (encI_len .u8) (encI_cell .u8) (frz_seq s1.b3 (v := ev) (l := d.ec) (by simp [frL])) (by simp only [List.length_nil]; omega) (by decide) (fun v2 h2 cv2 s2 => ?_)
  rw [List.nil_append] at s2
  refine s2.app (enc := encI .u8) (sz := 1) rfl (by decide) (encI_len .u8) (encI_cell .u8) s2.b4.seq (by omega) (by decide) (fun v3 h3 cv3 s3 => ?_)
  rw [ev_nil, ev_off, Nat.zero_add]
  refine s3.b1.st (Nat.le_of_ble_eq_true rfl) cv3 (fun h4 s4 => ?_)
  have s5 : HW.Sep h0 (frz (frL d lv rv ev rs ++ E) :: Sl (encI .u8) 1 v3 (d.ec ++ l) :: Blk k (dC (d.emit l) lv sv rv v3) 48 :: Sl encCV 1 sv (rs.map (·.1)) :: F) h4 := selF (L := [_, _, _, _, _]) s4 [3, 1, 0, 2, 4] rfl (by decide) |>.perm (.cons _ (.cons _ (.cons _ (.refl _)))) |> fun x => (x.b4.tail)
  exact H h4 (Xshut (d := d.emit l) (rs := rs) e (frz_add s5).p2 (by intro x hx; simp only [frL, D.emit, List.cons_append, List.mem_cons] at hx ⊢; grind))
theorem xshow {c : Int} (hc : 0 ≤ c ∧ c < 256) (s : HW.Sep h0 (Xc k d E :: F) h) (hb : d.wt ≤ 1073741000) (H : ∀ h', HW.Sep h0 (Xc k (d.show c) E :: F) h' → R unit h') : betonyref18_Disc_show_c (ptr k 0) (.int .u8 c) h R := by
  apply betonyref18_Disc_show_runs
  unfold betonyref18_Disc_show_S
  refine xlocal s ?_
  unfold D.show at H
  rw [ev_if]
  cases hh : d.loc 2 with
  | false => rw [hh] at H; rw [if_neg (by decide)]; exact H h s
  | true =>
    rw [hh, if_pos rfl] at H
    rw [if_pos rfl]
    refine xpict hc s (fun v h1 s1 => ?_)
    have pl := (pict_len d c).1
    unfold D.wt at hb
    exact xout s1 (by omega) (fun h2 s2 => H h2 s2)
theorem xlost (s : HW.Sep h0 (Xc k d E :: F) h) (hb : d.wt ≤ 1073741000) (H : ∀ h', HW.Sep h0 (Xc k d.bell E :: F) h' → R unit h') : betonyref18_Disc_lost_c (ptr k 0) h R := by
  apply betonyref18_Disc_lost_runs
  unfold betonyref18_Disc_lost_S
  refine xin s ?_
  unfold D.bell at H
  unfold D.wt at hb
  rw [ev_if]
  cases hh : d.inn 64 with
  | false => rw [hh] at H; rw [if_neg (by decide)]; exact H h s
  | true =>
    rw [hh, if_pos rfl] at H
    rw [if_pos rfl]
    refine s.slit (enc := encI .u8) (sz := 1) (encI_len .u8) [7] rfl ⟨rfl, Nat.le_of_ble_eq_true rfl, rfl⟩ (fun v h1 cv s1 => ?_)
    exact xout s1 (by simp only [List.length_cons, List.length_nil]; omega) (fun h2 s2 => H h2 s2)
theorem xAll (s : HW.Sep h0 (Xc k d E :: F) h) (hb : d.wt ≤ 1073741000) (H : ∀ v h', HW.Sep h [Sl (encI .u8) 1 v (allL d)] h' → R v h') : betonyref18_Disc_All_c (ptr k 0) h R := by
  apply betonyref18_Disc_All_runs
  unfold betonyref18_Disc_All_S
  obtain ⟨lv, sv, rv, ev, rs, e, so⟩ := Xopen s
  have b := so.has
  have qs := so.b1.seq
  have ql : Seq (encI .u8) 1 h lv d.ln := frz_seq so.b2 (by simp [frL])
  have qr : Seq (encI .u8) 1 h rv d.ra := frz_seq so.b2 (by simp [frL])
  have wts := hb
  unfold D.wt at wts
  refine (HW.Sep.start h).slit (enc := encI .u8) (sz := 1) (encI_len .u8) [] rfl rfl (fun v1 h1 cv1 s1 => ?_)
  have f19 : ∀ {K : Value → Prop}, sLd h1 (ptr k 19) K = K rv := ev_ld_has (s1.ext.has b) rfl
  rw [ev_nil, ev_off, Nat.zero_add, f19]
  refine s1.app (enc := encI .u8) (sz := 1) rfl (by decide) (encI_len .u8) (encI_cell .u8) (qr.ext s1.ext) (by simp only [List.length_nil]; omega) (by decide) (fun v2 h2 cv2 s2 => ?_)
  rw [List.nil_append] at s2
  refine ⟨fun t h' => ∃ (i : Nat) (v : Value), i ≤ d.ls.length ∧ t = (v, .int .i64 i) ∧ HW.Sep h [Sl (encI .u8) 1 v (d.ra ++ (d.ls.take i).flatten)] h', fun t _ => match t.2 with | .int _ i => (d.ls.length - i).toNat | _ => 0, ⟨0, v2, Nat.zero_le _, rfl, by simpa using s2⟩, ?_⟩
  rintro _ h3 ⟨i, v, hi, rfl, s3⟩
  simp only []
  unfold betonyref18_Disc_All_l1
  have f18 : ∀ {K : Value → Prop}, sLd h3 (ptr k 18) K = K sv := ev_ld_has (s3.ext.has b) rfl
  have l18 : ∀ {K : Value → Prop}, sLen sv K = K (.int .i64 d.ls.length) := fun {K} => by rw [qs.len, ← e, List.length_map, List.length_map]
  rw [ev_nil, ev_off, Nat.zero_add, f18, l18, ev_lt, ev_if]
  have st := sumL_take d.ls i hi
  have fl : (d.ls.take i).flatten.length = sumL (d.ls.take i) := sumL_flat _
  by_cases hlt : i < d.ls.length
  · rw [if_pos (decide_eq_true (by omega)), ev_nil, ev_off, Nat.zero_add, f18]
    have hr : i < rs.length := by rw [← e, List.length_map] at hlt; exact hlt
    obtain ⟨p, hp⟩ : ∃ p, rs[i]? = some p := ⟨rs[i], List.getElem?_eq_getElem hr⟩
    have hp1 : (rs.map (·.1))[i]? = some p.1 := by rw [List.getElem?_map, hp]; rfl
    have hp2 : d.ls[i]? = some p.2 := by rw [← e, List.getElem?_map, hp]; rfl
    have qp : Seq (encI .u8) 1 h p.1.1 p.2 := frz_seq so.b2 (by
      have : (p.1.1, p.2) ∈ frR rs := List.mem_map.2 ⟨p, List.mem_of_getElem? hp, rfl⟩
      simp [frL, this])
    have st2 := sumL_take d.ls (i + 1) (by omega)
    have e2 : sumL (d.ls.take (i + 1)) = sumL (d.ls.take i) + p.2.length := by rw [List.take_add_one, hp2]; exact sumL_append _ _
    rw [Seq.ld (qs.ext s3.ext) hp1 rfl]
    refine s3.app (enc := encI .u8) (sz := 1) rfl (by decide) (encI_len .u8) (encI_cell .u8) (qp.ext s3.ext) (by rw [List.length_append]; omega) (by decide) (fun v4 h4 cv4 s4 => ?_)
    rw [ev_add, wrap_i64 (by omega) (by omega)]
    refine ⟨⟨i + 1, v4, hlt, by rw [Int.natCast_add]; rfl, ?_⟩, by simp only; omega⟩
    rw [List.take_add_one, hp2, List.flatten_append]
    simpa using s4
  · have : i = d.ls.length := by omega
    subst this
    rw [List.take_of_length_le (Nat.le_refl _)] at s3 fl st
    have f17 : ∀ {K : Value → Prop}, sLd h3 (ptr k 17) K = K lv := ev_ld_has (s3.ext.has b) rfl
    rw [if_neg (by simp), ev_nil, ev_off, Nat.zero_add, f17]
    refine s3.app (enc := encI .u8) (sz := 1) rfl (by decide) (encI_len .u8) (encI_cell .u8) (ql.ext s3.ext) (by rw [List.length_append]; omega) (by decide) (fun v4 h4 cv4 s4 => ?_)
    exact H v4 h4 s4
theorem allL_len (d : D) : (allL d).length = d.readyN + d.ln.length := by unfold allL D.readyN; rw [List.length_append, List.length_append, sumL_flat]
theorem xReady (s : HW.Sep h0 (Xc k d E :: F) h) (hb : d.wt ≤ 1073741000) (H : ∀ h', Ext h h' → R (.int .i64 d.readyN) h') : betonyref18_Disc_Ready_c (ptr k 0) h R := by
  apply betonyref18_Disc_Ready_runs
  unfold betonyref18_Disc_Ready_S
  obtain ⟨lv, sv, rv, ev, rs, e, so⟩ := Xopen s
  have b := so.has
  have ql : Seq (encI .u8) 1 h lv d.ln := frz_seq so.b2 (by simp [frL])
  have cc : ∀ {o : Nat} {u : Value} {K : Value → Prop}, (dC d lv sv rv ev)[o]? = some u → sLdC (fun h' => h'.has k (dC d lv sv rv ev) 48) (ptr k o) K = K u := fun hv => ldc_at (C := fun h' => h'.has k (dC d lv sv rv ev) 48) (h0 := h) b (fun h' e => by rw [e.at, hv])
  have wts := hb
  unfold D.wt at wts
  refine ⟨fun h' => h'.has k (dC d lv sv rv ev) 48, b, ?_⟩
  refine xAll s hb (fun v h1 s1 => ⟨s1.ext.has b, ?_⟩)
  have al := allL_len d
  have hr : d.readyN ≤ 1073741000 := by unfold D.readyN; omega
  rw [s1.seq.len, ev_nil, ev_off, Nat.zero_add, cc (o := 17) (u := lv) rfl, ql.len, ev_sub, wrap_i64 (by omega) (by omega)]
  rw [show ((allL d).length : Int) - (d.ln.length : Int) = (d.readyN : Int) by omega]
  exact H h1 s1.ext
theorem xput_j1 {c : Int} (hc : 0 ≤ c ∧ c < 256) (s : HW.Sep h0 (Xc k d E :: F) h) (hb : d.wt ≤ 1073740000) (H : ∀ h', HW.Sep h0 (Xc k (d.put1 c) E :: F) h' → R (.bool true) h') : betonyref18_Disc_put_j1 R (ptr k 0) (.int .u8 c) h := by
  unfold betonyref18_Disc_put_j1
  rw [ev_eq]
  refine and_ext (y := d.loc 1) (fun _ K' HK => xlocal s (HK _ (Ext.refl _))) (fun h1 e1 => ?_)
  have s1 := s.ext' e1
  refine and_ext (y := d.loc 16) (fun _ K' HK => xlocal s1 (HK _ (Ext.refl _))) (fun h2 e2 => ?_)
  have s2 := s1.ext' e2
  refine and_ext (y := !d.loc 2) (fun _ K' HK => xlocal s2 (by rw [ev_not]; exact HK _ (Ext.refl _))) (fun h3 e3 => ?_)
  have s3 := s2.ext' e3
  rw [ev_if]
  unfold D.put1 at H
  unfold betonyref18_Disc_put_j2
  split
  · rename_i hp
    rw [if_pos hp] at H
    have hc10 : c = 10 := by simp only [Bool.and_eq_true, beq_iff_eq] at hp; exact hp.1.1.1
    subst hc10
    refine s3.slit (enc := encI .u8) (sz := 1) (encI_len .u8) [10] rfl ⟨rfl, Nat.le_of_ble_eq_true rfl, rfl⟩ (fun v h4 cv s4 => ?_)
    refine xout s4 (by unfold D.wt at hb; simp only [List.length_cons, List.length_nil]; omega) (fun h5 s5 => ?_)
    exact xshow hc s5 (by rw [emit_wt]; simp; omega) H
  · rename_i hp
    rw [if_neg hp] at H
    exact xshow hc s3 (by omega) H
theorem xput {c : Int} (hc : 0 ≤ c ∧ c < 256) (s : HW.Sep h0 (Xc k d E :: F) h) (hb : d.wt ≤ 1073700000) (H : ∀ h', HW.Sep h0 (Xc k (d.put c).1 E :: F) h' → R (.bool (d.put c).2) h') : betonyref18_Disc_put_c (ptr k 0) (.int .u8 c) h R := by
  apply betonyref18_Disc_put_runs
  unfold betonyref18_Disc_put_S
  rw [ev_eq]
  have wts := hb
  unfold D.wt at wts
  refine or_ext (y := d.t.is 4 c) (fun _ K' HK => xis s hc (fun h' e => HK _ e)) (fun h1 e1 => ?_)
  rw [show (c == 10 || d.t.is 4 c) = d.ends c from rfl]
  have s1 := s.ext' e1
  refine xlocal s1 ?_
  obtain ⟨lv, sv, rv, ev, rs, e, so⟩ := Xopen s1
  have ql : Seq (encI .u8) 1 h1 lv d.ln := frz_seq so.b2 (by simp [frL])
  have qr : Seq (encI .u8) 1 h1 rv d.ra := frz_seq so.b2 (by simp [frL])
  have f17 : ∀ {K : Value → Prop}, sLd h1 (ptr k 17) K = K lv := so.ld rfl
  have l17 : ∀ {K : Value → Prop}, sLen lv K = K (.int .i64 d.ln.length) := fun {K} => ql.len
  have l19 : ∀ {K : Value → Prop}, sLen rv K = K (.int .i64 d.ra.length) := fun {K} => qr.len
  have hl : decide ((d.ra.length : Int) < 1024) = decide (d.ra.length < 1024) := by rw [Bool.eq_iff_iff]; simp; omega
  have hl2 : decide ((d.ln.length : Int) < 254) = decide (d.ln.length < 254) := by rw [Bool.eq_iff_iff]; simp; omega
  have hl3 : decide ((d.ln.length : Int) < 255) = decide (d.ln.length < 255) := by rw [Bool.eq_iff_iff]; simp; omega
  simp only [ev_nil, ev_off, Nat.zero_add, f17, l17, ev_lt, ev_and_p, ev_or_p]
  rw [hl2, hl3]
  refine or_ext (y := !d.loc 1 && decide (d.ra.length < 1024)) (fun _ K' HK => ?_) (fun h2 e2 => ?_)
  · refine xlocal s1 ?_
    have f19 : ∀ {K : Value → Prop}, sLd h1 (ptr k 19) K = K rv := so.ld rfl
    simp only [ev_not, f19, l19, ev_lt, ev_and_p]
    rw [hl]
    exact HK _ (Ext.refl _)
  have s2 := s1.ext' e2
  have so2 := so.ext' e2
  rw [ev_not, ev_if]
  unfold D.put at H
  cases h1c : d.loc 1 with
  | true =>
    rw [h1c] at H
    simp only [Bool.not_true, Bool.false_and, Bool.true_and, Bool.or_false] at H ⊢
    rw [if_neg Bool.false_ne_true] at H
    by_cases hp : (decide (d.ln.length < 254) || (d.ends c && decide (d.ln.length < 255))) = true
    · rw [if_pos hp] at H
      rw [hp, if_neg (by decide)]
      refine xlocal s2 ?_
      rw [h1c, ev_if, if_pos rfl]
      refine so2.slit (enc := encI .u8) (sz := 1) (encI_len .u8) [] rfl rfl (fun v1 h3 cv1 s3 => ?_)
      have f17' : ∀ {K : Value → Prop}, sLd h3 (ptr k 17) K = K lv := s3.b1.ld rfl
      rw [f17']
      refine s3.app (enc := encI .u8) (sz := 1) rfl (by decide) (encI_len .u8) (encI_cell .u8) (frz_seq s3.b3 (v := lv) (l := d.ln) (by simp [frL])) (by simp only [List.length_nil]; omega) (by decide) (fun v2 h4 cv2 s4 => ?_)
      rw [List.nil_append] at s4
      refine s4.slit (enc := encI .u8) (sz := 1) (encI_len .u8) [c] rfl ⟨rfl, Nat.le_of_ble_eq_true rfl, rfl⟩ (fun v3 h5 cv3 s5 => ?_)
      refine s5.b1.app (enc := encI .u8) (sz := 1) rfl (by decide) (encI_len .u8) (encI_cell .u8) s5.seq (by simp only [List.length_cons, List.length_nil]; omega) (by decide) (fun v4 h6 cv4 s6 => ?_)
      refine s6.b2.st (Nat.le_of_ble_eq_true rfl) cv4 (fun h7 s7 => ?_)
      have s8 : HW.Sep h0 (frz (frL d lv rv ev rs ++ E) :: Sl (encI .u8) 1 v4 (d.ln ++ [c]) :: Blk k (dC { d with ln := d.ln ++ [c] } v4 sv rv ev) 48 :: Sl encCV 1 sv (rs.map (·.1)) :: Sl (encI .u8) 1 v3 [c] :: F) h7 := selF (L := [_, _, _, _, _]) s7 [4, 1, 0, 3, 2] rfl (by decide)
      have s9 : HW.Sep h0 (Xc k { d with ln := d.ln ++ [c] } E :: F) h7 := Xshut (d := { d with ln := d.ln ++ [c] }) (rs := rs) e (frz_add s8.b4.tail).p2 (by intro x hx; simp only [frL, List.cons_append, List.mem_cons] at hx ⊢; grind)
      exact xput_j1 hc s9 (by unfold D.wt; simp only [List.length_append, List.length_cons, List.length_nil]; omega) H
    · rw [if_neg hp] at H
      rw [show (decide (d.ln.length < 254) || (d.ends c && decide (d.ln.length < 255))) = false by simpa using hp, if_pos (by decide)]
      exact xlost s2 (by omega) H
  | false =>
    rw [h1c] at H
    simp only [Bool.not_false, Bool.false_and, Bool.true_and, Bool.false_or] at H ⊢
    by_cases hp : decide (d.ra.length < 1024) = true
    · rw [if_pos hp] at H
      rw [hp, if_neg (by decide)]
      refine xlocal s2 ?_
      rw [h1c, ev_if, if_neg (by decide)]
      refine so2.slit (enc := encI .u8) (sz := 1) (encI_len .u8) [] rfl rfl (fun v1 h3 cv1 s3 => ?_)
      have f19 : ∀ {K : Value → Prop}, sLd h3 (ptr k 19) K = K rv := s3.b1.ld rfl
      rw [f19]
      refine s3.app (enc := encI .u8) (sz := 1) rfl (by decide) (encI_len .u8) (encI_cell .u8) (frz_seq s3.b3 (v := rv) (l := d.ra) (by simp [frL])) (by simp only [List.length_nil]; omega) (by decide) (fun v2 h4 cv2 s4 => ?_)
      rw [List.nil_append] at s4
      refine s4.slit (enc := encI .u8) (sz := 1) (encI_len .u8) [c] rfl ⟨rfl, Nat.le_of_ble_eq_true rfl, rfl⟩ (fun v3 h5 cv3 s5 => ?_)
      refine s5.b1.app (enc := encI .u8) (sz := 1) rfl (by decide) (encI_len .u8) (encI_cell .u8) s5.seq (by simp only [List.length_cons, List.length_nil]; omega) (by decide) (fun v4 h6 cv4 s6 => ?_)
      refine s6.b2.st (Nat.le_of_ble_eq_true rfl) cv4 (fun h7 s7 => ?_)
      have s8 : HW.Sep h0 (frz (frL d lv rv ev rs ++ E) :: Sl (encI .u8) 1 v4 (d.ra ++ [c]) :: Blk k (dC { d with ra := d.ra ++ [c] } lv sv v4 ev) 48 :: Sl encCV 1 sv (rs.map (·.1)) :: Sl (encI .u8) 1 v3 [c] :: F) h7 := selF (L := [_, _, _, _, _]) s7 [4, 1, 0, 3, 2] rfl (by decide)
      have s9 : HW.Sep h0 (Xc k { d with ra := d.ra ++ [c] } E :: F) h7 := Xshut (d := { d with ra := d.ra ++ [c] }) (rs := rs) e (frz_add s8.b4.tail).p2 (by intro x hx; simp only [frL, List.cons_append, List.mem_cons] at hx ⊢; grind)
      exact xput_j1 hc s9 (by unfold D.wt; simp only [List.length_append, List.length_cons, List.length_nil]; omega) H
    · rw [if_neg hp, if_neg Bool.false_ne_true] at H
      rw [show decide (d.ra.length < 1024) = false by simpa using hp, if_pos (by decide)]
      exact xlost s2 (by omega) H
theorem last_at {l : List Int} (hp : 0 < l.length) : l[l.length - 1]? = some (l.getLastD 0) := by
  rw [List.getLastD_eq_getLast?, List.getLast?_eq_getElem?, List.getElem?_eq_getElem (by omega)]; rfl
theorem ne_pos {l : List Int} (hne : l ≠ []) : 0 < l.length := Nat.pos_of_ne_zero fun e => hne (List.eq_nil_of_length_eq_zero e)
theorem xblank (s : HW.Sep h0 (Xc k d E :: F) h) (hne : d.ln ≠ []) (hb : d.wt ≤ 1073741000) (H : R (.bool (blank (d.ln.getLastD 0))) h) : betonyref18_Disc_blank_c (ptr k 0) h R := by
  apply betonyref18_Disc_blank_runs
  unfold betonyref18_Disc_blank_S
  have hp := ne_pos hne
  unfold D.wt at hb
  obtain ⟨lv, sv, rv, ev, rs, e, so⟩ := Xopen s
  have ql : Seq (encI .u8) 1 h lv d.ln := frz_seq so.b2 (by simp [frL])
  have f17 : ∀ {K : Value → Prop}, sLd h (ptr k 17) K = K lv := so.ld rfl
  have l17 : ∀ {K : Value → Prop}, sLen lv K = K (.int .i64 d.ln.length) := fun {K} => ql.len
  simp only [ev_nil, ev_off, Nat.zero_add, f17, l17, ev_sub]
  rw [wrap_i64 (by omega) (by omega), show (d.ln.length : Int) - 1 = ((d.ln.length - 1 : Nat) : Int) by omega, Seq.ld ql (last_at hp) rfl]
  simp only [ev_eq, ev_or_p]
  exact H
theorem xback (s : HW.Sep h0 (Xc k d E :: F) h) (hc : 0 ≤ d.ln.getLastD 0 ∧ d.ln.getLastD 0 < 256) (hne : d.ln ≠ []) (hb : d.wt ≤ 1073741000) (H : ∀ h', HW.Sep h0 (Xc k d.back E :: F) h' → R unit h') : betonyref18_Disc_back_c (ptr k 0) h R := by
  apply betonyref18_Disc_back_runs
  unfold betonyref18_Disc_back_S
  have hp := ne_pos hne
  have wts := hb
  unfold D.wt at wts
  obtain ⟨lv, sv, rv, ev, rs, e, so⟩ := Xopen s
  have ql : Seq (encI .u8) 1 h lv d.ln := frz_seq so.b2 (by simp [frL])
  have f17 : ∀ {K : Value → Prop}, sLd h (ptr k 17) K = K lv := so.ld rfl
  have l17 : ∀ {K : Value → Prop}, sLen lv K = K (.int .i64 d.ln.length) := fun {K} => ql.len
  simp only [ev_nil, ev_off, Nat.zero_add, f17, l17, ev_sub]
  rw [wrap_i64 (by omega) (by omega), show (d.ln.length : Int) - 1 = ((d.ln.length - 1 : Nat) : Int) by omega, Seq.ld ql (last_at hp) rfl]
  refine ql.slK (i := 0) (j := d.ln.length - 1) (by omega) (by omega) rfl ⟨.i64, rfl⟩ ?_
  refine so.st (Nat.le_of_ble_eq_true rfl) (seq_cell (ql.cutP (i := 0) (j := d.ln.length - 1) (by omega) (by omega))) (fun h1 s1 => ?_)
  have hdl : (d.ln.take (d.ln.length - 1)).drop 0 = d.ln.dropLast := by rw [List.dropLast_eq_take]; rfl
  have s2 := frz_cut (i := 0) (j := d.ln.length - 1) s1.b2 (v := lv) (l := d.ln) (by simp [frL]) (by omega) (by omega)
  rw [hdl] at s2
  have s3 : HW.Sep h0 (Xc k d.cutLast E :: F) h1 := Xshut (d := d.cutLast) (lv := HW.cutP lv 0 (d.ln.length - 1) 1) (rs := rs) e s2.p2 (by intro x hx; simp only [frL, D.cutLast, List.cons_append, List.mem_cons] at hx ⊢; grind)
  have cw := cut_wt d hne
  unfold D.back at H
  refine xlocal s3 ?_
  refine and_ext (y := d.loc 4) (fun _ K' HK => xlocal s3 (HK _ (Ext.refl _))) (fun h2 e2 => ?_)
  have s4 := s3.ext' e2
  rw [ev_if]
  have el : (d.cutLast.loc 2 && d.loc 4) = !(!d.loc 2 || !d.loc 4) := by show (d.loc 2 && d.loc 4) = _; cases d.loc 2 <;> cases d.loc 4 <;> rfl
  rw [el]
  by_cases hh : (!d.loc 2 || !d.loc 4) = true
  · rw [if_pos hh] at H
    rw [hh, if_neg (by decide)]
    exact H h2 s4
  rw [if_neg hh] at H
  rw [show (!d.loc 2 || !d.loc 4) = false by simpa using hh, if_pos (by decide)]
  have pl := (pict_len d (d.ln.getLastD 0)).1
  refine ⟨fun t h' => ∃ i : Nat, i ≤ (d.pict (d.ln.getLastD 0)).length ∧ t = .int .i64 i ∧ HW.Sep h0 (Xc k (d.cutLast.emit (backs i)) E :: F) h', fun t _ => match t with | .int _ i => ((d.pict (d.ln.getLastD 0)).length - i).toNat | _ => 0, ⟨0, Nat.zero_le _, rfl, ?_⟩, ?_⟩
  · have : d.cutLast.emit (backs 0) = d.cutLast := by unfold D.emit backs; simp
    rw [this]; exact s4
  rintro _ h4 ⟨i, hi, rfl, s6⟩
  simp only []
  unfold betonyref18_Disc_back_l1
  refine xpict hc s6 (fun v h5 s7 => ?_)
  rw [show (d.cutLast.emit (backs i)).pict (d.ln.getLastD 0) = d.pict (d.ln.getLastD 0) from rfl] at s7
  rw [s7.seq.len, ev_lt, ev_if]
  generalize (d.pict (d.ln.getLastD 0)).length = n at H pl hi ⊢
  have s7 := s7.tail
  by_cases hlt : i < n
  · rw [if_pos (decide_eq_true (by omega))]
    refine s7.slit (enc := encI .u8) (sz := 1) (encI_len .u8) [8, 32, 8] rfl ⟨rfl, Nat.le_of_ble_eq_true rfl, rfl, Nat.le_of_ble_eq_true rfl, rfl, Nat.le_of_ble_eq_true rfl, rfl⟩ (fun v2 h6 cv s8 => ?_)
    refine xout s8 (by
      show (d.cutLast.ec ++ backs i).length + _ ≤ _
      rw [List.length_append, backs_len]
      show d.ec.length + _ + _ ≤ _
      simp only [List.length_cons, List.length_nil]; omega) (fun h7 s9 => ?_)
    rw [ev_add, wrap_i64 (by omega) (by omega)]
    refine ⟨⟨i + 1, hlt, by rw [Int.natCast_add]; rfl, ?_⟩, by simp only; omega⟩
    have : d.cutLast.emit (backs (i + 1)) = (d.cutLast.emit (backs i)).emit [8, 32, 8] := by unfold D.emit; simp only [backs, List.append_assoc]
    rw [this]; exact s9
  · have : i = n := by omega
    subst this
    rw [if_neg (by simp)]
    exact H h5 s7
theorem xflush (s : HW.Sep h0 (Xc k d E :: F) h) (H : ∀ h', HW.Sep h0 (Xc k d.flush E :: F) h' → R unit h') : betonyref18_Disc_Flush_c (ptr k 0) h R := by
  apply betonyref18_Disc_Flush_runs
  unfold betonyref18_Disc_Flush_S
  obtain ⟨lv, sv, rv, ev, rs, e, so⟩ := Xopen s
  rw [ev_nil, ev_off, Nat.zero_add]
  refine so.st (Nat.le_of_ble_eq_true rfl) trivial (fun h1 s1 => ?_)
  rw [ev_nil, ev_off, Nat.zero_add]
  refine s1.st (Nat.le_of_ble_eq_true rfl) trivial (fun h2 s2 => ?_)
  rw [ev_nil, ev_off, Nat.zero_add]
  refine s2.st (Nat.le_of_ble_eq_true rfl) trivial (fun h3 s3 => ?_)
  have s4 : HW.Sep h0 (Blk k (dC d.flush (.slice none 0 0) (.slice none 0 0) (.slice none 0 0) ev) 48 :: frz (frL d lv rv ev rs ++ E) :: F) h3 := s3.b1.tail
  have s5 : HW.Sep h0 (Blk k (dC d.flush (.slice none 0 0) (.slice none 0 0) (.slice none 0 0) ev) 48 :: Sl encCV 1 (.slice none 0 0) (([] : List (CV × List Int)).map (·.1)) :: frz ((.slice none 0 0, []) :: (frL d lv rv ev rs ++ E)) :: F) h3 := (sep_nil (frz_nilv s4.b1).b1).b1
  exact H h3 (Xshut (d := d.flush) (rs := []) rfl s5 (by intro x hx; simp only [frL, frR, D.flush, List.map_nil, List.cons_append, List.mem_cons] at hx ⊢; grind))
theorem xready (s : HW.Sep h0 (Xc k d E :: F) h) (hb : d.wt ≤ 1073000000) (H : ∀ h', HW.Sep h0 (Xc k d.ready E :: F) h' → R unit h') : betonyref18_Disc_ready_c (ptr k 0) h R := by
  apply betonyref18_Disc_ready_runs
  unfold betonyref18_Disc_ready_S
  obtain ⟨lv, sv, rv, ev, rs, e, so⟩ := Xopen s
  have wts := hb
  unfold D.wt at wts
  have ql : Seq (encI .u8) 1 h lv d.ln := frz_seq so.b2 (by simp [frL])
  have cl : Cell1 lv := seq_cell ql
  have f17 : ∀ {K : Value → Prop}, sLd h (ptr k 17) K = K lv := so.ld rfl
  have l17 : ∀ {K : Value → Prop}, sLen lv K = K (.int .i64 d.ln.length) := fun {K} => ql.len
  obtain ⟨va, vn, vm, rfl, _⟩ := ql
  rw [ev_nil, ev_off, Nat.zero_add, f17, ev_nil, ev_off, Nat.zero_add]
  refine so.st (Nat.le_of_ble_eq_true rfl) trivial (fun h1 s1 => ?_)
  have s2 : HW.Sep h0 (Blk k (dC { d with ln := [] } (.slice none 0 0) sv rv ev) 48 :: Sl encCV 1 sv (rs.map (·.1)) :: frz ((.slice none 0 0, []) :: (frL d (.slice va vn vm) rv ev rs ++ E)) :: F) h1 := (frz_nilv s1.b2).p2
  have s3 : HW.Sep h0 (Xc k { d with ln := [] } ((.slice va vn vm, d.ln) :: E) :: F) h1 := Xshut (d := { d with ln := [] }) (rs := rs) e s2 (by intro x hx; simp only [frL, List.cons_append, List.mem_cons, List.mem_append] at hx ⊢; grind)
  have w3 : ({ d with ln := [] } : D).wt ≤ 1073000000 := by unfold D.wt; simp only [List.length_nil]; omega
  refine xReady s3 (by omega) (fun h2 e2 => ?_)
  have s4 := s3.ext' e2
  have hr : d.readyN ≤ 1073000000 := by unfold D.readyN; omega
  rw [show ({ d with ln := [] } : D).readyN = d.readyN from rfl, l17, ev_add, wrap_i64 (by omega) (by omega), ev_gt, ev_if]
  unfold D.ready at H
  have weak : ∀ {d' : D} {h' : Heap}, HW.Sep h0 (Xc k d' ((.slice va vn vm, d.ln) :: E) :: F) h' → HW.Sep h0 (Xc k d' E :: F) h' := fun s => by
    obtain ⟨lv, sv, rv, ev, rs, e, so⟩ := Xopen s
    exact Xshut e so (by intro x hx; simp only [List.mem_append, List.mem_cons] at hx ⊢; grind)
  by_cases hg : d.readyN + d.ln.length > 1024
  · rw [if_pos hg] at H
    rw [if_pos (decide_eq_true (by omega))]
    refine xlost s4 (by omega) (fun h3 s5 => H h3 ?_)
    have : ({ d with ln := [] } : D).bell = { d.bell with ln := [] } := by unfold D.bell; show (if d.inn 64 = true then _ else _) = _; split <;> rfl
    rw [← this]; exact weak s5
  · rw [if_neg hg] at H
    rw [if_neg (by simp; omega)]
    obtain ⟨lv', sv', rv', ev', rs', e', so'⟩ := Xopen s4
    have e'' : rs'.map (·.2) = d.ls := e'
    have lrs : rs'.length = d.ls.length := by rw [← e'', List.length_map]
    refine so'.slit (enc := encCV) (sz := 1) encCV_len [] rfl rfl (fun v1 h3 cv1 s5 => ?_)
    have f18 : ∀ {K : Value → Prop}, sLd h3 (ptr k 18) K = K sv' := s5.b1.ld rfl
    rw [ev_nil, ev_off, Nat.zero_add, f18]
    refine s5.app (enc := encCV) (sz := 1) rfl (by decide) encCV_len encCV_cell s5.b2.seq (by simp only [List.length_map, List.length_nil]; omega) (by decide) (fun v2 h4 cv2 s6 => ?_)
    rw [List.nil_append] at s6
    refine s6.slit (enc := encCV) (sz := 1) encCV_len [⟨.slice va vn vm, cl⟩] rfl ⟨rfl, Nat.le_of_ble_eq_true rfl, rfl⟩ (fun v3 h5 cv3 s7 => ?_)
    refine s7.b1.app (enc := encCV) (sz := 1) rfl (by decide) encCV_len encCV_cell s7.seq (by simp only [List.length_map, List.length_cons, List.length_nil]; omega) (by decide) (fun v4 h6 cv4 s8 => ?_)
    rw [ev_nil, ev_off, Nat.zero_add]
    refine s8.b2.st (Nat.le_of_ble_eq_true rfl) cv4 (fun h7 s9 => ?_)
    have s10 : HW.Sep h0 (Blk k (dC { d with ls := d.ls ++ [d.ln], ln := [] } lv' v4 rv' ev') 48 :: Sl encCV 1 v4 ((rs' ++ [((⟨.slice va vn vm, cl⟩ : CV), d.ln)]).map (·.1)) :: frz (frL { d with ln := [] } lv' rv' ev' rs' ++ ((.slice va vn vm, d.ln) :: E)) :: F) h7 := by
      rw [List.map_append]
      exact (selF (L := [_, _, _, _, _]) s9 [2, 3, 0, 1, 4] rfl (by decide) : HW.Sep h0 (_ :: _ :: _ :: _ :: _ :: F) h7).tail2
    exact H h7 (Xshut (d := { d with ls := d.ls ++ [d.ln], ln := [] }) (rs := rs' ++ [(⟨.slice va vn vm, cl⟩, d.ln)]) (by rw [List.map_append, e'']; rfl) s10 (by intro x hx; simp only [frL, frR, List.map_append, List.map_cons, List.map_nil, List.cons_append, List.mem_cons, List.mem_append] at hx ⊢; grind))
end
end Go.Proofs.Ytlcklnbgknhhkaa

end
